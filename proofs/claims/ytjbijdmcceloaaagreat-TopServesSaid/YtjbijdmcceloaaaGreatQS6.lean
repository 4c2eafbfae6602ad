/- Part of the proof of topServes_holds. No condition. -/
import Derived.Test.YtjbijdmcceloaaaGreatQS5
set_option linter.unusedVariables false
set_option linter.unusedSimpArgs false
set_option maxHeartbeats 80000000
set_option maxRecDepth 100000
namespace Go.Proofs.YtjbijdmcceloaaaGreat.Top
open Go Go.RowKit Go.Proofs.YtjbijdmcceloaaaGreat Go.Proofs.YtjbijdmcceloaaaGreatW.PrintWords Go.Proofs.YtjbijdmcceloaaaGreatW.PrintLast Go.Proofs.YtjbijdmcceloaaaGreatW.PrintMore
theorem qag {w w':World} (h:Below w.heap.size w w'):Only (fun _=>False) w w':=⟨h.os,h.tape,h.output,h.size,fun k hk _=>h.block k hk⟩
theorem Core.below {A:Adr} {x:Sig.Link} {vt:Value} {w w':World} (h:Core w A x vt) (hb:Below w.heap.size w w'):Core w' A x vt:=h.only (qag hb) (fun _ _ h=>h)
theorem qdm {A:Adr} {w w':World} (h:Below w.heap.size w w'):Only (Own A) w w':=(qag h).mono (fun _ h=>h.elim)
theorem w64n (n:Nat) (h:n<1000000):wrap64 ((n:Int)+1)=((n+1:Nat):Int):=by unfold wrap64;omega
theorem qlh (p:Sig.Proof) (wrong:Bool) (w:World) (hn:p.n≤1000) (ht:p.tries≤1000) :
  Calls Tryz.prog 130 #[.agg #[.bool p.hurry,.int .i64 p.n,.int .i64 p.tries],.bool wrong] w fun e w'=>e=.returned (.tuple #[.agg #[.bool (p.unit wrong).1.hurry,.int .i64 (p.unit wrong).1.n,.int .i64 (p.unit wrong).1.tries],.bool (p.unit wrong).2.1,.bool (p.unit wrong).2.2])∧Below w.heap.size w w':=qvy p wrong w hn ht
theorem ql7 {A:Adr} {x:Sig.Link} {vt:Value} {w:World} (h:Core w A x vt) (wrong:Bool) (hn:x.a.p.n≤1000) (ht:x.a.p.tries≤1000) :
  Calls Tryz.prog 119 #[.pointer (some ⟨A.a,0,none⟩),.bool wrong] w (qc9 A w (x.aUnit wrong).1 vt (.int .u8 (x.aUnit wrong).2)):=by
 have H:=am h;obtain⟨a13,a14,a15,a16,a17,a18,a19,g14,g15,g16,g17,g18,g19⟩:=h.fa;clear h;by_cases hs:x.a.state=3
 ·have s3:=b_t x.a.state 3 (by omega);have hpr:=qlh x.a.p wrong w hn ht;have hp:x.aUnit wrong=if (x.a.p.unit wrong).2.2=true then ({ x with a:={ x.a with p:=(x.a.p.unit wrong).1 } },5) else if (x.a.p.unit wrong).2.1=true then (Sig.Link.prove { x with a:={ x.a with p:=(x.a.p.unit wrong).1 } },0) else ({ x with a:={ x.a with p:=(x.a.p.unit wrong).1 } },0):=by unfold Sig.Link.aUnit;rw[if_neg (by simp[hs])]
  generalize x.a.p.unit wrong=r at hpr hp;obtain⟨⟨qh,qn,qt⟩,anew,qw0⟩:=r;rw[hp];clear hp;have HPR:=am hpr;clear hpr;cases qw0
  ·cases anew
   ·simp only[Bool.false_eq_true,if_false,if_true];go_enter Tryz.func119,Tryz.ntmps119
    go_wp2_with fail
    refine HPR.out.mono ?_;rintro e w1 ⟨rfl,hb⟩;have H1:=am (H.out.below hb);have O1:=am (qdm (A:=A) hb);clear a13 a14 a15 a16 a17 a18 a19 g14 g15 g16 g17 g18 g19 hb;have h1:=H1.out.alloc (.cells #[.bool qh,.int .i64 qn,.int .i64 qt] 60);obtain⟨a13,a14,a15,a16,a17,a18,a19,g14,g15,g16,g17,g18,g19⟩:=h1.fa;clear h1
    go_wp2_with fail
    go_ret;exact qak rfl ((((H1.out.alloc (.cells #[.bool qh,.int .i64 qn,.int .i64 qt] 60)).setA 4 (.bool qh) { x.a with p:=⟨qh,x.a.p.n,x.a.p.tries⟩ } rfl).setA 5 (.int .i64 qn) { x.a with p:=⟨qh,qn,x.a.p.tries⟩ } rfl).setA 6 (.int .i64 qt) { x.a with p:=⟨qh,qn,qt⟩ } rfl) ((O1.out.trans ((Only.refl (Own A) w1).alloc (.cells #[.bool qh,.int .i64 qn,.int .i64 qt] 60))).trans (((qbn 17 (.bool qh)).trans (qbn 18 (.int .i64 qn))).trans (qbn 19 (.int .i64 qt))))
   ·simp only[Bool.false_eq_true,if_false,if_true];go_enter Tryz.func119,Tryz.ntmps119
    go_wp2_with fail
    refine HPR.out.mono ?_;rintro e w1 ⟨rfl,hb⟩;have H1:=am (H.out.below hb);have O1:=am (qdm (A:=A) hb);clear a13 a14 a15 a16 a17 a18 a19 g14 g15 g16 g17 g18 g19 hb;have h1:=H1.out.alloc (.cells #[.bool qh,.int .i64 qn,.int .i64 qt] 60);obtain⟨a13,a14,a15,a16,a17,a18,a19,g14,g15,g16,g17,g18,g19⟩:=h1.fa;clear h1
    go_wp2_with fail
    refine(qci ((((H1.out.alloc (.cells #[.bool qh,.int .i64 qn,.int .i64 qt] 60)).setA 4 (.bool qh) { x.a with p:=⟨qh,x.a.p.n,x.a.p.tries⟩ } rfl).setA 5 (.int .i64 qn) { x.a with p:=⟨qh,qn,x.a.p.tries⟩ } rfl).setA 6 (.int .i64 qt) { x.a with p:=⟨qh,qn,qt⟩ } rfl)).mono ?_;rintro e w2 ⟨rfl,h2,o2⟩;go_wp2;go_ret;exact qak rfl h2 (((O1.out.trans ((Only.refl (Own A) w1).alloc (.cells #[.bool qh,.int .i64 qn,.int .i64 qt] 60))).trans (((qbn 17 (.bool qh)).trans (qbn 18 (.int .i64 qn))).trans (qbn 19 (.int .i64 qt)))).trans o2)
  ·simp only[Bool.false_eq_true,if_false,if_true];go_enter Tryz.func119,Tryz.ntmps119
   go_wp2_with fail
   refine HPR.out.mono ?_;rintro e w1 ⟨rfl,hb⟩;have H1:=am (H.out.below hb);have O1:=am (qdm (A:=A) hb);clear a13 a14 a15 a16 a17 a18 a19 g14 g15 g16 g17 g18 g19 hb;have h1:=H1.out.alloc (.cells #[.bool qh,.int .i64 qn,.int .i64 qt] 60);obtain⟨a13,a14,a15,a16,a17,a18,a19,g14,g15,g16,g17,g18,g19⟩:=h1.fa;clear h1
   go_wp2_with fail
   go_ret;exact qak rfl ((((H1.out.alloc (.cells #[.bool qh,.int .i64 qn,.int .i64 qt] 60)).setA 4 (.bool qh) { x.a with p:=⟨qh,x.a.p.n,x.a.p.tries⟩ } rfl).setA 5 (.int .i64 qn) { x.a with p:=⟨qh,qn,x.a.p.tries⟩ } rfl).setA 6 (.int .i64 qt) { x.a with p:=⟨qh,qn,qt⟩ } rfl) ((O1.out.trans ((Only.refl (Own A) w1).alloc (.cells #[.bool qh,.int .i64 qn,.int .i64 qt] 60))).trans (((qbn 17 (.bool qh)).trans (qbn 18 (.int .i64 qn))).trans (qbn 19 (.int .i64 qt))))
 ·have s3:=b_f x.a.state 3 (by omega);have s3':(((x.a.state:Nat):Int) != 3)=true:=bne_iff_ne.2 (by omega);have hp:x.aUnit wrong=(x,0):=by simp[Sig.Link.aUnit,hs]
  rw[hp];clear hp;go_enter Tryz.func119,Tryz.ntmps119;go_wp2;go_ret;exact qak rfl H.out (Only.refl _ _)
theorem qk0 {A:Adr} {x:Sig.Link} {vt:Value} {w:World} (h:Core w A x vt) (st:Nat) :
  Calls Tryz.prog 121 #[.pointer (some ⟨A.a,0,none⟩),.int .u8 st] w (qc9 A w (x.aHeard st).1 vt (.int .u8 (x.aHeard st).2)):=by
 have H:=am h;obtain⟨a13,a14,a15,a16,a17,a18,a19,g14,g15,g16,g17,g18,g19⟩:=h.fa;obtain⟨b,hb⟩:∃b,x.hurry=b:=⟨_,rfl⟩;have HB:=am hb;have hb2:(x.a.own||x.a.their)=b:=hb;clear h hb;by_cases h0:x.a.state=0
 ·skip;have hp:x.aHeard st=(x,0):=by simp[Sig.Link.aHeard,Sig.Link.hurry,hb2,h0]
  rw[hp];clear hp hb2;have s0:=b_t x.a.state 0 (by omega);have s1:=b_f x.a.state 1 (by omega);have s2:=b_f x.a.state 2 (by omega);have s3:=b_f x.a.state 3 (by omega);go_enter Tryz.func121,Tryz.ntmps121
  go_wp2_with fail
  go_ret;exact qak rfl H.out (Only.refl _ _)
 ·by_cases z3:st=3
  ·by_cases h1:x.a.state=1
   ·skip;have hp:x.aHeard st=(x,0):=by simp[Sig.Link.aHeard,Sig.Link.hurry,hb2,h1,z3]
    rw[hp];clear hp hb2;have s0:=b_f x.a.state 0 (by omega);have s1:=b_t x.a.state 1 (by omega);have s2:=b_f x.a.state 2 (by omega);have s3:=b_f x.a.state 3 (by omega);have t0:=b_f st 0 (by omega);have t1:=b_f st 1 (by omega);have t2:=b_f st 2 (by omega);have t3:=b_t st 3 (by omega);go_enter Tryz.func121,Tryz.ntmps121
    go_wp2_with fail
    refine(qan H.out HB.out).mono ?_;rintro e w1 ⟨rfl,hw⟩;obtain rfl:=hw.symm
    go_wp2_with fail
    go_ret;exact qak rfl H.out (Only.refl _ _)
   ·by_cases h2:x.a.state=2
    ·skip;have hp:x.aHeard st=(x,8):=by simp[Sig.Link.aHeard,Sig.Link.hurry,hb2,h2,z3]
     rw[hp];clear hp hb2;have s0:=b_f x.a.state 0 (by omega);have s1:=b_f x.a.state 1 (by omega);have s2:=b_t x.a.state 2 (by omega);have s3:=b_f x.a.state 3 (by omega);have t0:=b_f st 0 (by omega);have t1:=b_f st 1 (by omega);have t2:=b_f st 2 (by omega);have t3:=b_t st 3 (by omega);go_enter Tryz.func121,Tryz.ntmps121
     go_wp2_with fail
     refine(qan H.out HB.out).mono ?_;rintro e w1 ⟨rfl,hw⟩;obtain rfl:=hw.symm
     go_wp2_with fail
     go_ret;exact qak rfl H.out (Only.refl _ _)
    ·by_cases h3:x.a.state=3
     ·skip;have hp:x.aHeard st=(x,8):=by simp[Sig.Link.aHeard,Sig.Link.hurry,hb2,h3,z3]
      rw[hp];clear hp hb2;have s0:=b_f x.a.state 0 (by omega);have s1:=b_f x.a.state 1 (by omega);have s2:=b_f x.a.state 2 (by omega);have s3:=b_t x.a.state 3 (by omega);have t0:=b_f st 0 (by omega);have t1:=b_f st 1 (by omega);have t2:=b_f st 2 (by omega);have t3:=b_t st 3 (by omega);go_enter Tryz.func121,Tryz.ntmps121
      go_wp2_with fail
      refine(qan H.out HB.out).mono ?_;rintro e w1 ⟨rfl,hw⟩;obtain rfl:=hw.symm
      go_wp2_with fail
      go_ret;exact qak rfl H.out (Only.refl _ _)
     ·skip;have hp:x.aHeard st=(x,8):=by simp[Sig.Link.aHeard,Sig.Link.hurry,hb2,h0,h1,h2,h3,z3]
      rw[hp];clear hp hb2;have s0:=b_f x.a.state 0 (by omega);have s1:=b_f x.a.state 1 (by omega);have s2:=b_f x.a.state 2 (by omega);have s3:=b_f x.a.state 3 (by omega);have t0:=b_f st 0 (by omega);have t1:=b_f st 1 (by omega);have t2:=b_f st 2 (by omega);have t3:=b_t st 3 (by omega);go_enter Tryz.func121,Tryz.ntmps121
      go_wp2_with fail
      refine(qan H.out HB.out).mono ?_;rintro e w1 ⟨rfl,hw⟩;obtain rfl:=hw.symm
      go_wp2_with fail
      go_ret;exact qak rfl H.out (Only.refl _ _)
  ·by_cases z2:st=2
   ·by_cases h1:x.a.state=1
    ·skip;have hp:x.aHeard st=(Sig.Link.near { x with a:={ x.a with their:=true } },0):=by simp[Sig.Link.aHeard,Sig.Link.hurry,hb2,h1,z2]
     rw[hp];clear hp hb2;have s0:=b_f x.a.state 0 (by omega);have s1:=b_t x.a.state 1 (by omega);have s2:=b_f x.a.state 2 (by omega);have s3:=b_f x.a.state 3 (by omega);have t0:=b_f st 0 (by omega);have t1:=b_f st 1 (by omega);have t2:=b_t st 2 (by omega);have t3:=b_f st 3 (by omega);go_enter Tryz.func121,Tryz.ntmps121
     go_wp2_with fail
     refine(qan H.out HB.out).mono ?_;rintro e w1 ⟨rfl,hw⟩;obtain rfl:=hw.symm
     go_wp2_with fail
     refine(qdv (H.out.setA 3 (.bool true) { x.a with their:=true } rfl)).mono ?_;rintro e w2 ⟨rfl,h2,o2⟩;go_wp2;go_ret;exact qak rfl h2 ((qbn (A:=A) (w:=w) 16 (.bool true)).trans o2)
    ·by_cases h2:x.a.state=2
     ·skip;have hp:x.aHeard st=(Sig.Link.prove { x with a:={ x.a with their:=true,p:=⟨false,0,0⟩ } },0):=by simp[Sig.Link.aHeard,Sig.Link.hurry,hb2,h2,z2]
      rw[hp];clear hp hb2;have s0:=b_f x.a.state 0 (by omega);have s1:=b_f x.a.state 1 (by omega);have s2:=b_t x.a.state 2 (by omega);have s3:=b_f x.a.state 3 (by omega);have t0:=b_f st 0 (by omega);have t1:=b_f st 1 (by omega);have t2:=b_t st 2 (by omega);have t3:=b_f st 3 (by omega);go_enter Tryz.func121,Tryz.ntmps121
      go_wp2_with fail
      refine(qan H.out HB.out).mono ?_;rintro e w1 ⟨rfl,hw⟩;obtain rfl:=hw.symm
      go_wp2_with fail
      refine(qci ((((H.out.setA 3 (.bool true) { x.a with their:=true } rfl).setA 4 (.bool false) { { x.a with their:=true } with p:=⟨false,x.a.p.n,x.a.p.tries⟩ } rfl).setA 5 (.int .i64 0) { { x.a with their:=true } with p:=⟨false,0,x.a.p.tries⟩ } rfl).setA 6 (.int .i64 0) { { x.a with their:=true } with p:=⟨false,0,0⟩ } rfl)).mono ?_;rintro e w2 ⟨rfl,h2,o2⟩;go_wp2;go_ret;exact qak rfl h2 (((qbn (A:=A) (w:=w) 16 (.bool true)).trans (((qbn 17 (.bool false)).trans (qbn 18 (.int .i64 0))).trans (qbn 19 (.int .i64 0)))).trans o2)
     ·by_cases h3:x.a.state=3
      ·cases b
       ·skip;have hp:x.aHeard st=(Sig.Link.prove { x with a:={ x.a with their:=true } },0):=by simp[Sig.Link.aHeard,Sig.Link.hurry,hb2,h3,z2]
        rw[hp];clear hp hb2;have s0:=b_f x.a.state 0 (by omega);have s1:=b_f x.a.state 1 (by omega);have s2:=b_f x.a.state 2 (by omega);have s3:=b_t x.a.state 3 (by omega);have t0:=b_f st 0 (by omega);have t1:=b_f st 1 (by omega);have t2:=b_t st 2 (by omega);have t3:=b_f st 3 (by omega);go_enter Tryz.func121,Tryz.ntmps121
        go_wp2_with fail
        refine(qan H.out HB.out).mono ?_;rintro e w1 ⟨rfl,hw⟩;obtain rfl:=hw.symm
        go_wp2_with fail
        refine(qan (H.out.setA 3 (.bool true) { x.a with their:=true } rfl) (b:=true) (by show (x.a.own||true)=true;simp)).mono ?_;rintro e w3 ⟨rfl,hw⟩;obtain rfl:=hw.symm
        go_wp2_with fail
        refine(qci (H.out.setA 3 (.bool true) { x.a with their:=true } rfl)).mono ?_;rintro e w2 ⟨rfl,h2,o2⟩;go_wp2;go_ret;exact qak rfl h2 ((qbn (A:=A) (w:=w) 16 (.bool true)).trans o2)
       ·skip;have hp:x.aHeard st=({ x with a:={ x.a with their:=true } },0):=by simp[Sig.Link.aHeard,Sig.Link.hurry,hb2,h3,z2]
        rw[hp];clear hp hb2;have s0:=b_f x.a.state 0 (by omega);have s1:=b_f x.a.state 1 (by omega);have s2:=b_f x.a.state 2 (by omega);have s3:=b_t x.a.state 3 (by omega);have t0:=b_f st 0 (by omega);have t1:=b_f st 1 (by omega);have t2:=b_t st 2 (by omega);have t3:=b_f st 3 (by omega);go_enter Tryz.func121,Tryz.ntmps121
        go_wp2_with fail
        refine(qan H.out HB.out).mono ?_;rintro e w1 ⟨rfl,hw⟩;obtain rfl:=hw.symm
        go_wp2_with fail
        go_ret;exact qak rfl (H.out.setA 3 (.bool true) { x.a with their:=true } rfl) (qbn (A:=A) (w:=w) 16 (.bool true))
      ·skip;have hp:x.aHeard st=({ x with a:={ x.a with their:=true } },0):=by simp[Sig.Link.aHeard,Sig.Link.hurry,hb2,h0,h1,h2,h3,z2]
       rw[hp];clear hp hb2;have s0:=b_f x.a.state 0 (by omega);have s1:=b_f x.a.state 1 (by omega);have s2:=b_f x.a.state 2 (by omega);have s3:=b_f x.a.state 3 (by omega);have t0:=b_f st 0 (by omega);have t1:=b_f st 1 (by omega);have t2:=b_t st 2 (by omega);have t3:=b_f st 3 (by omega);go_enter Tryz.func121,Tryz.ntmps121
       go_wp2_with fail
       refine(qan H.out HB.out).mono ?_;rintro e w1 ⟨rfl,hw⟩;obtain rfl:=hw.symm
       go_wp2_with fail
       go_ret;exact qak rfl (H.out.setA 3 (.bool true) { x.a with their:=true } rfl) (qbn (A:=A) (w:=w) 16 (.bool true))
   ·by_cases z1:st=1
    ·by_cases h1:x.a.state=1
     ·skip;have hp:x.aHeard st=(x.near,0):=by simp[Sig.Link.aHeard,Sig.Link.hurry,hb2,h1,z1]
      rw[hp];clear hp hb2;have s0:=b_f x.a.state 0 (by omega);have s1:=b_t x.a.state 1 (by omega);have s2:=b_f x.a.state 2 (by omega);have s3:=b_f x.a.state 3 (by omega);have t0:=b_f st 0 (by omega);have t1:=b_t st 1 (by omega);have t2:=b_f st 2 (by omega);have t3:=b_f st 3 (by omega);go_enter Tryz.func121,Tryz.ntmps121
      go_wp2_with fail
      refine(qan H.out HB.out).mono ?_;rintro e w1 ⟨rfl,hw⟩;obtain rfl:=hw.symm
      go_wp2_with fail
      refine(qdv H.out).mono ?_;rintro e w2 ⟨rfl,h2,o2⟩;go_wp2;go_ret;exact qak rfl h2 ((Only.refl (Own A) w).trans o2)
     ·by_cases h2:x.a.state=2
      ·skip;have hp:x.aHeard st=(Sig.Link.prove { x with a:={ x.a with p:=⟨false,0,0⟩ } },0):=by simp[Sig.Link.aHeard,Sig.Link.hurry,hb2,h2,z1]
       rw[hp];clear hp hb2;have s0:=b_f x.a.state 0 (by omega);have s1:=b_f x.a.state 1 (by omega);have s2:=b_t x.a.state 2 (by omega);have s3:=b_f x.a.state 3 (by omega);have t0:=b_f st 0 (by omega);have t1:=b_t st 1 (by omega);have t2:=b_f st 2 (by omega);have t3:=b_f st 3 (by omega);go_enter Tryz.func121,Tryz.ntmps121
       go_wp2_with fail
       refine(qan H.out HB.out).mono ?_;rintro e w1 ⟨rfl,hw⟩;obtain rfl:=hw.symm
       go_wp2_with fail
       refine(qci (((H.out.setA 4 (.bool false) { x.a with p:=⟨false,x.a.p.n,x.a.p.tries⟩ } rfl).setA 5 (.int .i64 0) { x.a with p:=⟨false,0,x.a.p.tries⟩ } rfl).setA 6 (.int .i64 0) { x.a with p:=⟨false,0,0⟩ } rfl)).mono ?_;rintro e w2 ⟨rfl,h2,o2⟩;go_wp2;go_ret;exact qak rfl h2 ((((qbn 17 (.bool false)).trans (qbn 18 (.int .i64 0))).trans (qbn 19 (.int .i64 0))).trans o2)
      ·by_cases h3:x.a.state=3
       ·cases b
        ·skip;have hp:x.aHeard st=(x,0):=by simp[Sig.Link.aHeard,Sig.Link.hurry,hb2,h3,z1]
         rw[hp];clear hp hb2;have s0:=b_f x.a.state 0 (by omega);have s1:=b_f x.a.state 1 (by omega);have s2:=b_f x.a.state 2 (by omega);have s3:=b_t x.a.state 3 (by omega);have t0:=b_f st 0 (by omega);have t1:=b_t st 1 (by omega);have t2:=b_f st 2 (by omega);have t3:=b_f st 3 (by omega);go_enter Tryz.func121,Tryz.ntmps121
         go_wp2_with fail
         refine(qan H.out HB.out).mono ?_;rintro e w3 ⟨rfl,hw⟩;obtain rfl:=hw.symm
         go_wp2_with fail
         refine(qan H.out HB.out).mono ?_;rintro e w3 ⟨rfl,hw⟩;obtain rfl:=hw.symm
         go_wp2_with fail
         go_ret;exact qak rfl H.out (Only.refl _ _)
        ·skip;have hp:x.aHeard st=(x,0):=by simp[Sig.Link.aHeard,Sig.Link.hurry,hb2,h3,z1]
         rw[hp];clear hp hb2;have s0:=b_f x.a.state 0 (by omega);have s1:=b_f x.a.state 1 (by omega);have s2:=b_f x.a.state 2 (by omega);have s3:=b_t x.a.state 3 (by omega);have t0:=b_f st 0 (by omega);have t1:=b_t st 1 (by omega);have t2:=b_f st 2 (by omega);have t3:=b_f st 3 (by omega);go_enter Tryz.func121,Tryz.ntmps121
         go_wp2_with fail
         refine(qan H.out HB.out).mono ?_;rintro e w1 ⟨rfl,hw⟩;obtain rfl:=hw.symm
         go_wp2_with fail
         go_ret;exact qak rfl H.out (Only.refl _ _)
       ·skip;have hp:x.aHeard st=(x,0):=by simp[Sig.Link.aHeard,Sig.Link.hurry,hb2,h0,h1,h2,h3,z1]
        rw[hp];clear hp hb2;have s0:=b_f x.a.state 0 (by omega);have s1:=b_f x.a.state 1 (by omega);have s2:=b_f x.a.state 2 (by omega);have s3:=b_f x.a.state 3 (by omega);have t0:=b_f st 0 (by omega);have t1:=b_t st 1 (by omega);have t2:=b_f st 2 (by omega);have t3:=b_f st 3 (by omega);go_enter Tryz.func121,Tryz.ntmps121
        go_wp2_with fail
        refine(qan H.out HB.out).mono ?_;rintro e w1 ⟨rfl,hw⟩;obtain rfl:=hw.symm
        go_wp2_with fail
        go_ret;exact qak rfl H.out (Only.refl _ _)
    ·by_cases z0:st=0
     ·by_cases h1:x.a.state=1
      ·skip;have hp:x.aHeard st=(x.near,0):=by simp[Sig.Link.aHeard,Sig.Link.hurry,hb2,h1,z0]
       rw[hp];clear hp hb2;have s0:=b_f x.a.state 0 (by omega);have s1:=b_t x.a.state 1 (by omega);have s2:=b_f x.a.state 2 (by omega);have s3:=b_f x.a.state 3 (by omega);have t0:=b_t st 0 (by omega);have t1:=b_f st 1 (by omega);have t2:=b_f st 2 (by omega);have t3:=b_f st 3 (by omega);go_enter Tryz.func121,Tryz.ntmps121
       go_wp2_with fail
       refine(qan H.out HB.out).mono ?_;rintro e w1 ⟨rfl,hw⟩;obtain rfl:=hw.symm
       go_wp2_with fail
       refine(qdv H.out).mono ?_;rintro e w2 ⟨rfl,h2,o2⟩;go_wp2;go_ret;exact qak rfl h2 ((Only.refl (Own A) w).trans o2)
      ·by_cases h2:x.a.state=2
       ·skip;have hp:x.aHeard st=(x,0):=by simp[Sig.Link.aHeard,Sig.Link.hurry,hb2,h2,z0]
        rw[hp];clear hp hb2;have s0:=b_f x.a.state 0 (by omega);have s1:=b_f x.a.state 1 (by omega);have s2:=b_t x.a.state 2 (by omega);have s3:=b_f x.a.state 3 (by omega);have t0:=b_t st 0 (by omega);have t1:=b_f st 1 (by omega);have t2:=b_f st 2 (by omega);have t3:=b_f st 3 (by omega);go_enter Tryz.func121,Tryz.ntmps121
        go_wp2_with fail
        refine(qan H.out HB.out).mono ?_;rintro e w1 ⟨rfl,hw⟩;obtain rfl:=hw.symm
        go_wp2_with fail
        go_ret;exact qak rfl H.out (Only.refl _ _)
       ·by_cases h3:x.a.state=3
        ·skip;have hp:x.aHeard st=(x.near,0):=by simp[Sig.Link.aHeard,Sig.Link.hurry,hb2,h3,z0]
         rw[hp];clear hp hb2;have s0:=b_f x.a.state 0 (by omega);have s1:=b_f x.a.state 1 (by omega);have s2:=b_f x.a.state 2 (by omega);have s3:=b_t x.a.state 3 (by omega);have t0:=b_t st 0 (by omega);have t1:=b_f st 1 (by omega);have t2:=b_f st 2 (by omega);have t3:=b_f st 3 (by omega);go_enter Tryz.func121,Tryz.ntmps121
         go_wp2_with fail
         refine(qan H.out HB.out).mono ?_;rintro e w1 ⟨rfl,hw⟩;obtain rfl:=hw.symm
         go_wp2_with fail
         refine(qdv H.out).mono ?_;rintro e w2 ⟨rfl,h2,o2⟩;go_wp2;go_ret;exact qak rfl h2 ((Only.refl (Own A) w).trans o2)
        ·skip;have hp:x.aHeard st=(x,0):=by simp[Sig.Link.aHeard,Sig.Link.hurry,hb2,h0,h1,h2,h3,z0]
         rw[hp];clear hp hb2;have s0:=b_f x.a.state 0 (by omega);have s1:=b_f x.a.state 1 (by omega);have s2:=b_f x.a.state 2 (by omega);have s3:=b_f x.a.state 3 (by omega);have t0:=b_t st 0 (by omega);have t1:=b_f st 1 (by omega);have t2:=b_f st 2 (by omega);have t3:=b_f st 3 (by omega);go_enter Tryz.func121,Tryz.ntmps121
         go_wp2_with fail
         refine(qan H.out HB.out).mono ?_;rintro e w1 ⟨rfl,hw⟩;obtain rfl:=hw.symm
         go_wp2_with fail
         go_ret;exact qak rfl H.out (Only.refl _ _)
     ·by_cases h1:x.a.state=1
      ·skip;have hp:x.aHeard st=(x,0):=by simp[Sig.Link.aHeard,Sig.Link.hurry,hb2,h1,z0,z1,z2,z3]
       rw[hp];clear hp hb2;have s0:=b_f x.a.state 0 (by omega);have s1:=b_t x.a.state 1 (by omega);have s2:=b_f x.a.state 2 (by omega);have s3:=b_f x.a.state 3 (by omega);have t0:=b_f st 0 (by omega);have t1:=b_f st 1 (by omega);have t2:=b_f st 2 (by omega);have t3:=b_f st 3 (by omega);go_enter Tryz.func121,Tryz.ntmps121
       go_wp2_with fail
       refine(qan H.out HB.out).mono ?_;rintro e w1 ⟨rfl,hw⟩;obtain rfl:=hw.symm
       go_wp2_with fail
       go_ret;exact qak rfl H.out (Only.refl _ _)
      ·by_cases h2:x.a.state=2
       ·skip;have hp:x.aHeard st=(x,0):=by simp[Sig.Link.aHeard,Sig.Link.hurry,hb2,h2,z0,z1,z2,z3]
        rw[hp];clear hp hb2;have s0:=b_f x.a.state 0 (by omega);have s1:=b_f x.a.state 1 (by omega);have s2:=b_t x.a.state 2 (by omega);have s3:=b_f x.a.state 3 (by omega);have t0:=b_f st 0 (by omega);have t1:=b_f st 1 (by omega);have t2:=b_f st 2 (by omega);have t3:=b_f st 3 (by omega);go_enter Tryz.func121,Tryz.ntmps121
        go_wp2_with fail
        refine(qan H.out HB.out).mono ?_;rintro e w1 ⟨rfl,hw⟩;obtain rfl:=hw.symm
        go_wp2_with fail
        go_ret;exact qak rfl H.out (Only.refl _ _)
       ·by_cases h3:x.a.state=3
        ·cases b
         ·skip;have hp:x.aHeard st=(x,0):=by simp[Sig.Link.aHeard,Sig.Link.hurry,hb2,h3,z0,z1,z2,z3]
          rw[hp];clear hp hb2;have s0:=b_f x.a.state 0 (by omega);have s1:=b_f x.a.state 1 (by omega);have s2:=b_f x.a.state 2 (by omega);have s3:=b_t x.a.state 3 (by omega);have t0:=b_f st 0 (by omega);have t1:=b_f st 1 (by omega);have t2:=b_f st 2 (by omega);have t3:=b_f st 3 (by omega);go_enter Tryz.func121,Tryz.ntmps121
          go_wp2_with fail
          refine(qan H.out HB.out).mono ?_;rintro e w3 ⟨rfl,hw⟩;obtain rfl:=hw.symm
          go_wp2_with fail
          refine(qan H.out HB.out).mono ?_;rintro e w3 ⟨rfl,hw⟩;obtain rfl:=hw.symm
          go_wp2_with fail
          go_ret;exact qak rfl H.out (Only.refl _ _)
         ·skip;have hp:x.aHeard st=(x,0):=by simp[Sig.Link.aHeard,Sig.Link.hurry,hb2,h3,z0,z1,z2,z3]
          rw[hp];clear hp hb2;have s0:=b_f x.a.state 0 (by omega);have s1:=b_f x.a.state 1 (by omega);have s2:=b_f x.a.state 2 (by omega);have s3:=b_t x.a.state 3 (by omega);have t0:=b_f st 0 (by omega);have t1:=b_f st 1 (by omega);have t2:=b_f st 2 (by omega);have t3:=b_f st 3 (by omega);go_enter Tryz.func121,Tryz.ntmps121
          go_wp2_with fail
          refine(qan H.out HB.out).mono ?_;rintro e w1 ⟨rfl,hw⟩;obtain rfl:=hw.symm
          go_wp2_with fail
          go_ret;exact qak rfl H.out (Only.refl _ _)
        ·skip;have hp:x.aHeard st=(x,0):=by simp[Sig.Link.aHeard,Sig.Link.hurry,hb2,h0,h1,h2,h3,z0,z1,z2,z3]
         rw[hp];clear hp hb2;have s0:=b_f x.a.state 0 (by omega);have s1:=b_f x.a.state 1 (by omega);have s2:=b_f x.a.state 2 (by omega);have s3:=b_f x.a.state 3 (by omega);have t0:=b_f st 0 (by omega);have t1:=b_f st 1 (by omega);have t2:=b_f st 2 (by omega);have t3:=b_f st 3 (by omega);go_enter Tryz.func121,Tryz.ntmps121
         go_wp2_with fail
         refine(qan H.out HB.out).mono ?_;rintro e w1 ⟨rfl,hw⟩;obtain rfl:=hw.symm
         go_wp2_with fail
         go_ret;exact qak rfl H.out (Only.refl _ _)
theorem qfs {A:Adr} {x:Sig.Link} {vt:Value} {w:World} (h:Core w A x vt) :
  Calls Tryz.prog 86 #[.pointer (some ⟨A.j,0,none⟩)] w (qc9 A w x.jClear vt (.tuple #[])):=by
 have H:=am h;obtain⟨j13,j14,j15,j16,k14,k15,k16⟩:=h.fj;clear h;go_enter Tryz.func86,Tryz.ntmps86
 go_wp2_with fail
 refine(qf9 (((H.out.setJ 1 (.bool false) { x.j with own:=false } rfl).setJ 2 (.bool false) { x.j with own:=false,their:=false } rfl).setJ 3 (.bool false) { x.j with own:=false,their:=false,due:=false } rfl) [5,6] (by decide) (by decide) (by simp only[qa0];first|done|rfl) rfl rfl).mono ?_;rintro e w1 ⟨rfl,h1,o1⟩;clear j13 j14 j15 j16 k14 k15 k16;go_wp2;go_end0;exact qak rfl h1 ((((qfw (A:=A) (w:=w) 14 (.bool false)).trans (qfw 15 (.bool false))).trans (qfw 16 (.bool false))).trans o1)
theorem qnr {A:Adr} {x:Sig.Link} {vt:Value} {w:World} (h:Core w A x vt) :
  Calls Tryz.prog 69 #[.pointer (some ⟨A.j,0,none⟩)] w (qc9 A w x.jEnd vt (.tuple #[])):=by
 have H:=am h;obtain⟨j13,j14,j15,j16,k14,k15,k16⟩:=h.fj;clear h;go_enter Tryz.func69,Tryz.ntmps69
 go_wp2_with fail
 refine(qf9 ((H.out.setJ 1 (.bool false) { x.j with own:=false } rfl).setJ 3 (.bool false) { x.j with own:=false,due:=false } rfl) [5] (by decide) (by decide) (by simp only[qa0];first|done|rfl) rfl rfl).mono ?_;rintro e w1 ⟨rfl,h1,o1⟩;clear j13 j14 j15 j16 k14 k15 k16;go_wp2;go_end0;exact qak rfl h1 (((qfw (A:=A) (w:=w) 14 (.bool false)).trans (qfw 16 (.bool false))).trans o1)
theorem qkn {A:Adr} {x:Sig.Link} {vt:Value} {w:World} (h:Core w A x vt) :
  Calls Tryz.prog 68 #[.pointer (some ⟨A.j,0,none⟩)] w (qc9 A w x.jBegin vt (.tuple #[])):=by
 have H:=am h;obtain⟨j13,j14,j15,j16,k14,k15,k16⟩:=h.fj;clear h;cases ho:x.j.own
 all_goals rw[ho] at j14
 ·have hp:x.jBegin=Sig.Link.start { x with j:={ x.j with own:=true,due:=true } } 5:=by simp[Sig.Link.jBegin,ho]
  rw[hp];clear hp;go_enter Tryz.func68,Tryz.ntmps68
  go_wp2_with fail
  have h1:=((H.out.setJ 1 (.bool true) { x.j with own:=true } rfl).setJ 3 (.bool true) { x.j with own:=true,due:=true } rfl);have o1:=((qfw (A:=A) (w:=w) 14 (.bool true)).trans (qfw 16 (.bool true)));generalize ((w.setCell ⟨A.j,14,none⟩ (.bool true)).setCell ⟨A.j,16,none⟩ (.bool true))=w1 at h1 o1 ⊢;clear j13 j14 j15 j16 k14 k15 k16;obtain⟨j13,j14,j15,j16,k14,k15,k16⟩:=h1.fj;have t5:w1.cell? ⟨A.j,10,none⟩=some (.int .i64 (x.T 5:Nat)):=h1.jT 5 (by decide);have H1:=am h1;have O1:=am o1;clear h1 o1;go_still_tail 10,(by kernel_rfl);change wpList _ _ _ _ _ w1.drew
  go_wp2_with fail
  refine(qcm H1.out.drew 5 (by decide) rfl).mono ?_;rintro e w2 ⟨rfl,h2,o2⟩;go_wp2;go_end0;exact qak rfl h2 (O1.out.trans ((Only.drew1 w1).trans o2))
 ·have hp:x.jBegin=x:=by simp[Sig.Link.jBegin,ho]
  rw[hp];clear hp;go_enter Tryz.func68,Tryz.ntmps68;go_wp2;go_end0;exact qak rfl H.out (Only.refl _ _)
theorem qks {A:Adr} {x:Sig.Link} {vt:Value} {w:World} (h:Core w A x vt) :
  Calls Tryz.prog 110 #[.pointer (some ⟨A.j,0,none⟩)] w (qc9 A w { x with j:={ x.j with due:=false } } vt (.bool x.j.due)):=by
 have H:=am h;obtain⟨j13,j14,j15,j16,k14,k15,k16⟩:=h.fj;clear h;cases ho:x.j.due
 all_goals rw[ho] at j16
 ·have hp:({ x with j:={ x.j with due:=false } }:Sig.Link)=x:=by rw[←ho]
  rw[hp];clear hp;go_enter Tryz.func110,Tryz.ntmps110;go_wp2;go_ret;exact qak rfl H.out (Only.refl _ _)
 ·go_enter Tryz.func110,Tryz.ntmps110;go_wp2;go_ret;exact qak rfl (H.out.setJ 3 (.bool false) { x.j with due:=false } rfl) (qfw 16 (.bool false))
theorem qes {A:Adr} {x:Sig.Link} {vt:Value} {w:World} (h:Core w A x vt) :
  Calls Tryz.prog 125 #[.pointer (some ⟨A.j,0,none⟩)] w (qc9 A w x.jAnswer.1 vt (.bool x.jAnswer.2)):=by
 have H:=am h;obtain⟨j13,j14,j15,j16,k14,k15,k16⟩:=h.fj;clear h;cases ho:x.j.their
 all_goals rw[ho] at j15
 ·have hp:x.jAnswer=(x,false):=by simp[Sig.Link.jAnswer,ho]
  rw[hp];clear hp;go_enter Tryz.func125,Tryz.ntmps125;go_wp2;go_ret;exact qak rfl H.out (Only.refl _ _)
 ·have hp:x.jAnswer=(Sig.Link.stop { x with j:={ x.j with their:=false } } [6],true):=by simp[Sig.Link.jAnswer,ho]
  rw[hp];clear hp;go_enter Tryz.func125,Tryz.ntmps125
  go_wp2_with fail
  refine(qf9 (H.out.setJ 2 (.bool false) { x.j with their:=false } rfl) [6] (by decide) (by decide) (by simp only[qa0];first|done|rfl) rfl rfl).mono ?_;rintro e w1 ⟨rfl,h1,o1⟩;go_wp2;go_ret;exact qak rfl h1 ((qfw 15 (.bool false)).trans o1)
theorem qkm {A:Adr} {x:Sig.Link} {vt:Value} {w:World} (h:Core w A x vt) (b:Bool) :
  Calls Tryz.prog 123 #[.pointer (some ⟨A.j,0,none⟩),.bool b] w (qc9 A w (x.jHeard b).1 vt (.bool (x.jHeard b).2)):=by
 have H:=am h;obtain⟨j13,j14,j15,j16,k14,k15,k16⟩:=h.fj;have t6:w.cell? ⟨A.j,11,none⟩=some (.int .i64 (x.T 6:Nat)):=h.jT 6 (by decide);have t7:w.cell? ⟨A.j,12,none⟩=some (.int .i64 (x.T 7:Nat)):=h.jT 7 (by decide);clear h;cases ho:x.j.their
 all_goals rw[ho] at j15
 all_goals cases b
 ·have hp:x.jHeard false=(Sig.Link.start { x with j:={ x.j with their:=true } } 6,true):=by simp[Sig.Link.jHeard,ho]
  rw[hp];clear hp;go_enter Tryz.func123,Tryz.ntmps123
  go_wp2_with fail
  have h1:=H.out.setJ 2 (.bool true) { x.j with their:=true } rfl;have o1:=qfw (A:=A) (w:=w) 15 (.bool true);generalize (w.setCell ⟨A.j,15,none⟩ (.bool true))=w1 at h1 o1 ⊢;clear j13 j14 j15 j16 k14 k15 k16 t6 t7;obtain⟨j13,j14,j15,j16,k14,k15,k16⟩:=h1.fj;have t6:w1.cell? ⟨A.j,11,none⟩=some (.int .i64 (x.T 6:Nat)):=h1.jT 6 (by decide);have H1:=am h1;have O1:=am o1;clear h1 o1;go_still_tail 10,(by kernel_rfl);change wpList _ _ _ _ _ w1.drew
  go_wp2_with fail
  refine(qcm H1.out.drew 6 (by decide) rfl).mono ?_;rintro e w2 ⟨rfl,h2,o2⟩;go_wp2;go_ret;exact qak rfl h2 (O1.out.trans ((Only.drew1 w1).trans o2))
 ·have hp:x.jHeard true=(Sig.Link.start { x.start 7 with j:={ x.j with their:=true } } 6,true):=by simp[Sig.Link.jHeard,Sig.Link.start,ho]
  rw[hp];clear hp;go_enter Tryz.func123,Tryz.ntmps123
  go_wp2_with fail
  go_still_tail 10,(by kernel_rfl);change wpList _ _ _ _ _ w.drew
  go_wp2_with fail
  refine(qcm H.out.drew 7 (by decide) rfl).mono ?_;rintro e w1 ⟨rfl,h1,o1⟩;have H1:=am h1;have O1:=am ((Only.drew1 (P:=Own A) w).trans o1);clear h1 o1 j13 j14 j15 j16 k14 k15 k16 t6 t7;have h1:=H1.out;obtain⟨j13,j14,j15,j16,k14,k15,k16⟩:=h1.fj;rw[show (x.start 7).j.their=x.j.their from rfl,ho] at j15;have t6:w1.cell? ⟨A.j,11,none⟩=some (.int .i64 (x.T 6:Nat)):=h1.jT 6 (by decide);clear h1
  go_wp2_with fail
  have h2:=H1.out.setJ 2 (.bool true) { x.j with their:=true } rfl;have o2:=qfw (A:=A) (w:=w1) 15 (.bool true);generalize (w1.setCell ⟨A.j,15,none⟩ (.bool true))=w2 at h2 o2 ⊢;clear j13 j14 j15 j16 k14 k15 k16 t6;obtain⟨j13,j14,j15,j16,k14,k15,k16⟩:=h2.fj;have t6:w2.cell? ⟨A.j,11,none⟩=some (.int .i64 (x.T 6:Nat)):=h2.jT 6 (by decide);have H2:=am h2;have O2:=am o2;clear h2 o2;go_still_tail 10,(by kernel_rfl);change wpList _ _ _ _ _ w2.drew
  go_wp2_with fail
  refine(qcm H2.out.drew 6 (by decide) rfl).mono ?_;rintro e w3 ⟨rfl,h3,o3⟩;go_wp2;go_ret;exact qak rfl h3 (O1.out.trans (O2.out.trans ((Only.drew1 w2).trans o3)))
 ·have hp:x.jHeard false=(x,false):=by simp[Sig.Link.jHeard,ho]
  rw[hp];clear hp;go_enter Tryz.func123,Tryz.ntmps123
  go_wp2_with fail
  go_ret;exact qak rfl H.out (Only.refl _ _)
 ·have hp:x.jHeard true=(x.start 7,false):=by simp[Sig.Link.jHeard,Sig.Link.start,ho]
  rw[hp];clear hp;go_enter Tryz.func123,Tryz.ntmps123
  go_wp2_with fail
  go_still_tail 10,(by kernel_rfl);change wpList _ _ _ _ _ w.drew
  go_wp2_with fail
  refine(qcm H.out.drew 7 (by decide) rfl).mono ?_;rintro e w1 ⟨rfl,h1,o1⟩;have H1:=am h1;have O1:=am ((Only.drew1 (P:=Own A) w).trans o1);clear h1 o1 j13 j14 j15 j16 k14 k15 k16 t6 t7;have h1:=H1.out;obtain⟨j13,j14,j15,j16,k14,k15,k16⟩:=h1.fj;rw[show (x.start 7).j.their=x.j.their from rfl,ho] at j15;have t6:w1.cell? ⟨A.j,11,none⟩=some (.int .i64 (x.T 6:Nat)):=h1.jT 6 (by decide);clear h1;go_wp2;go_ret;exact qak rfl H1.out O1.out
theorem qce {A:Adr} {x:Sig.Link} {vt:Value} {w:World} (h:Core w A x vt) (i:Nat) :
  Calls Tryz.prog 100 #[.pointer (some ⟨A.j,0,none⟩),.int .i64 i] w (qc9 A w (x.jOut i).1 vt (.int .u8 (x.jOut i).2)):=by
 have H:=am h;obtain⟨j13,j14,j15,j16,k14,k15,k16⟩:=h.fj;have t5:w.cell? ⟨A.j,10,none⟩=some (.int .i64 (x.T 5:Nat)):=h.jT 5 (by decide);clear h;by_cases hi:i=5
 ·cases ho:x.j.own
  all_goals rw[ho] at j14
  ·skip;have hp:x.jOut i=(x,0):=by simp[Sig.Link.jOut,hi,ho]
   rw[hp];clear hp;have e5:=b_t i 5 (by omega);have e6:=b_f i 6 (by omega);go_enter Tryz.func100,Tryz.ntmps100
   go_wp2_with fail
   go_ret;exact qak rfl H.out (Only.refl _ _)
  ·skip;have hp:x.jOut i=(Sig.Link.start { x with j:={ x.j with due:=true } } 5,0):=by simp[Sig.Link.jOut,hi,ho]
   rw[hp];clear hp;have e5:=b_t i 5 (by omega);have e6:=b_f i 6 (by omega);go_enter Tryz.func100,Tryz.ntmps100
   go_wp2_with fail
   have h1:=H.out.setJ 3 (.bool true) { x.j with due:=true } rfl;have o1:=qfw (A:=A) (w:=w) 16 (.bool true);generalize (w.setCell ⟨A.j,16,none⟩ (.bool true))=w1 at h1 o1 ⊢;clear j13 j14 j15 j16 k14 k15 k16 t5;obtain⟨j13,j14,j15,j16,k14,k15,k16⟩:=h1.fj;have t5:w1.cell? ⟨A.j,10,none⟩=some (.int .i64 (x.T 5:Nat)):=h1.jT 5 (by decide);have H1:=am h1;have O1:=am o1;clear h1 o1;go_still_tail 10,(by kernel_rfl);change wpList _ _ _ _ _ w1.drew
   go_wp2_with fail
   refine(qcm H1.out.drew 5 (by decide) rfl).mono ?_;rintro e w2 ⟨rfl,h2,o2⟩;go_wp2;go_ret;exact qak rfl h2 (O1.out.trans ((Only.drew1 w1).trans o2))
 ·by_cases hj:i=6
  ·cases ho:x.j.their
   all_goals rw[ho] at j15
   ·skip;have hp:x.jOut i=(x,0):=by simp[Sig.Link.jOut,hj,ho]
    rw[hp];clear hp;have e5:=b_f i 5 (by omega);have e6:=b_t i 6 (by omega);go_enter Tryz.func100,Tryz.ntmps100
    go_wp2_with fail
    go_ret;exact qak rfl H.out (Only.refl _ _)
   ·skip;have hp:x.jOut i=(x,3):=by simp[Sig.Link.jOut,hj,ho]
    rw[hp];clear hp;have e5:=b_f i 5 (by omega);have e6:=b_t i 6 (by omega);go_enter Tryz.func100,Tryz.ntmps100
    go_wp2_with fail
    go_ret;exact qak rfl H.out (Only.refl _ _)
  ·skip;have hp:x.jOut i=(x,0):=by simp[Sig.Link.jOut,hi,hj]
   rw[hp];clear hp;have e5:=b_f i 5 (by omega);have e6:=b_f i 6 (by omega);go_enter Tryz.func100,Tryz.ntmps100
   go_wp2_with fail
   go_ret;exact qak rfl H.out (Only.refl _ _)
def qj3 (A:Adr) (o:Sig.Outage) (leak:Sig.Leak) (vt:Value) (fails:Nat):List Value:=[ptr A.c,ptr A.a,ptr A.j,qcu A,.bool o.own,.bool o.their,.bool o.wait,.int .i64 leak.n,.int .i64 leak.seen,vt,.int .i64 fails]
section
variable {w:World} {A:Adr} {x:Sig.Link} {vt:Value}
theorem Core.sGet (h:Core w A x vt) (i:Nat) {v:Value} (e:(qj3 A x.o x.leak vt x.fails)[i]?=some v):w.cell? ⟨A.s,14+i,none⟩=some v:=by
 refine h.st.c (14+i) ?_;have:qij A x vt=.int .u8 x.s::(qcf A.cyc x.t++qj3 A x.o x.leak vt x.fails):=rfl;rw[this,show 14+i=(13+i)+1 by omega,List.getElem?_cons_succ,qbt A x h.T' i];exact e
theorem Core.sT (h:Core w A x vt) (i:Nat) (hi:i<8):w.cell? ⟨A.s,6+i,none⟩=some (.int .i64 (x.T i:Nat)):=by
 refine h.st.c (6+i) ?_;have:qij A x vt=.int .u8 x.s::(qcf A.cyc x.t++qj3 A x.o x.leak vt x.fails):=rfl;rw[this,show 6+i=(5+i)+1 by omega,List.getElem?_cons_succ,qgn A x h.T' i hi]
theorem Core.fs (h:Core w A x vt):w.cell? ⟨A.s,0,none⟩=some (.int .u8 x.s)∧w.cell? ⟨A.s,14,none⟩=some (.pointer (some ⟨A.c,0,none⟩))∧w.cell? ⟨A.s,15,none⟩=some (.pointer (some ⟨A.a,0,none⟩))∧w.cell? ⟨A.s,16,none⟩=some (.pointer (some ⟨A.j,0,none⟩))∧w.cell? ⟨A.s,17,none⟩=some (qcu A)∧w.cell? ⟨A.s,18,none⟩=some (.bool x.o.own)∧w.cell? ⟨A.s,19,none⟩=some (.bool x.o.their)∧w.cell? ⟨A.s,20,none⟩=some (.bool x.o.wait)∧w.cell? ⟨A.s,21,none⟩=some (.int .i64 x.leak.n)∧w.cell? ⟨A.s,22,none⟩=some (.int .i64 x.leak.seen)∧w.cell? ⟨A.s,23,none⟩=some vt∧w.cell? ⟨A.s,24,none⟩=some (.int .i64 x.fails)∧w.frozen? ⟨A.s,0,none⟩=false∧w.frozen? ⟨A.s,18,none⟩=false∧w.frozen? ⟨A.s,19,none⟩=false∧w.frozen? ⟨A.s,20,none⟩=false∧w.frozen? ⟨A.s,21,none⟩=false∧w.frozen? ⟨A.s,22,none⟩=false∧w.frozen? ⟨A.s,23,none⟩=false∧w.frozen? ⟨A.s,24,none⟩=false :=
 ⟨h.st.c 0 rfl,h.sGet 0 rfl,h.sGet 1 rfl,h.sGet 2 rfl,h.sGet 3 rfl,h.sGet 4 rfl,h.sGet 5 rfl,h.sGet 6 rfl,h.sGet 7 rfl,h.sGet 8 rfl,h.sGet 9 rfl,h.sGet 10 rfl,h.st.f _,h.st.f _,h.st.f _,h.st.f _,h.st.f _,h.st.f _,h.st.f _,h.st.f _⟩
theorem Core.setS0 (h:Core w A x vt) (n:Nat) {u:Value} (hu:u=.int .u8 (n:Nat)):Core (w.setCell ⟨A.s,0,none⟩ u) A { x with s:=n } vt:=by
 subst hu;obtain⟨n1,n2,n3,n4,n5,n6⟩:=h.ne;exact⟨h.st.set 0 _,h.cl.far (Ne.symm n1) _,h.al.far (Ne.symm n2) _,h.ja.far (Ne.symm n3) _,h.tl,h.tk⟩
theorem Core.setS (h:Core w A x vt) (i:Nat) (u:Value) (o:Sig.Outage) (leak:Sig.Leak) (vt':Value) (fails:Nat) (e:(qj3 A x.o x.leak vt x.fails).set i u=qj3 A o leak vt' fails):Core (w.setCell ⟨A.s,14+i,none⟩ u) A { x with o:=o,leak:=leak,fails:=fails } vt':=by
 obtain⟨n1,n2,n3,n4,n5,n6⟩:=h.ne;refine⟨?_,h.cl.far (Ne.symm n1) _,h.al.far (Ne.symm n2) _,h.ja.far (Ne.symm n3) _,h.tl,h.tk⟩;have:=h.st.set (14+i) u;have e1:qij A x vt=.int .u8 x.s::(qcf A.cyc x.t++qj3 A x.o x.leak vt x.fails):=rfl;rw[e1,show 14+i=(13+i)+1 by omega,List.set_cons_succ,qil A x h.T',e] at this;rw[show 14+i=(13+i)+1 by omega];exact this
end
def kT:Kd Sig.Told:=Kd.iso (Kd.pair (Kd.int .u8) (Kd.pair (Kd.int .u8) (Kd.slice 5 (Kd.int .u8)))) (fun t:Sig.Told=>((t.kind:Int),(t.why:Int),t.p.map (fun n:Nat=>(n:Int))))
theorem qps:(Tryz.prog.info? 184).map (fun i=>(i.zero,i.size,i.bytes))=some (some (.agg #[.int .u8 0,.int .u8 0,.slice none 0 0]),3,32):=by kernel_rfl
theorem qvr (w:World) (base:Nat) (ok:Nat→Prop) (t:Sig.Told) {v:Value} (g:(Kd.int .u8).R 5 w base ok v (t.p.map (fun n:Nat=>(n:Int)))):kT.M w base ok t [.int .u8 t.kind,.int .u8 t.why,v]:=⟨[.int .u8 t.kind],[.int .u8 t.why,v],rfl,rfl,⟨[.int .u8 t.why],[v],rfl,rfl,⟨v,rfl,g⟩⟩⟩
def Typed (w:World) (k t:Nat):Prop:=∃cells fr,w.heap[k]?=some (.cells cells t fr)
theorem qom {w:World} {k t:Nat} (h:∃cells,w.heap[k]?=some (.cells cells t)):Typed w k t:=h.elim fun c e=>⟨c,_,e⟩
theorem Typed.ne {w:World} {k t t':Nat} (h:Typed w k t) (h':Typed w k t'):t=t':=by
 obtain⟨c,fr,e⟩:=h;obtain⟨c',fr',e'⟩:=h';have:=e.symm.trans e';simp at this;exact this.2.1
theorem Blk.typed {w:World} {g t:Nat} {cs:List Value} (h:Blk w g t cs):Typed w g t:=⟨_,_,h⟩
def qbe (O:Nat→Prop) (w w':World) (k:Nat):Prop:=O k∨(w.heap.size≤k∧k<w'.heap.size)
def Wr (A:Adr) (O:Nat→Prop) (w:World) (k:Nat):Prop:=Own A k∨(O k∧Typed w k 184)
theorem qme {A:Adr} {O:Nat→Prop} {w w1 w2:World} (h1:Only (Wr A O w) w w1) (h2:Only (Wr A (qbe O w w1) w1) w1 w2):Only (Wr A O w) w w2:=by
 refine⟨h2.os.trans h1.os,h2.tape.trans h1.tape,h2.output.trans h1.output,Nat.le_trans h1.size h2.size,fun k hk hn=>?_⟩;refine(h2.block k (Nat.lt_of_lt_of_le hk h1.size) (fun h=>hn ?_)).trans (h1.block k hk hn);rcases h with h|⟨h|h,ht⟩
 ·exact Or.inl h
 ·refine Or.inr ⟨h,?_⟩;obtain⟨c,fr,e⟩:=ht;exact⟨c,fr,(h1.block k hk hn).symm.trans e⟩
 ·omega
theorem qbp {O:Nat→Prop} {w w1 w2:World} (h1:w.heap.size≤w1.heap.size) (h2:w1.heap.size≤w2.heap.size) (k:Nat) (h:qbe (qbe O w w1) w1 w2 k):qbe O w w2 k:=by
 rcases h with (h|h)|h
 ·exact Or.inl h
 ·exact Or.inr ⟨h.1,by omega⟩
 ·exact Or.inr ⟨by omega,h.2⟩
structure Lk (w:World) (A:Adr) (O:Nat→Prop) (x:Sig.Link) (vt:Value):Prop where
 core:Core w A x vt
 told:Kd.R kT 184 w 0 O vt x.told
 lt:∀k,O k→k<w.heap.size∧¬Own A k
def qqs (A:Adr) (O:Nat→Prop) (w:World) (x:Sig.Link) (r:Value) (e:Ending) (w':World):Prop:=e=.returned r∧(∃vt,Lk w' A (qbe O w w') x vt)∧Only (Wr A O w) w w'
theorem Lk.own_lt {w:World} {A:Adr} {O:Nat→Prop} {x:Sig.Link} {vt:Value} (h:Lk w A O x vt) (k:Nat) (hk:Own A k):k<w.heap.size:=by
 rcases hk with rfl|rfl|rfl|rfl
 ·exact h.core.st.lt
 ·exact h.core.cl.blk.lt
 ·exact h.core.al.lt
 ·exact h.core.ja.lt
theorem Lk.own_ty {w:World} {A:Adr} {O:Nat→Prop} {x:Sig.Link} {vt:Value} (h:Lk w A O x vt) (k t:Nat) (hk:Own A k) (ht:Typed w k t):t=54∨t=152∨t=62∨t=177:=by
 rcases hk with rfl|rfl|rfl|rfl
 ·exact Or.inl (ht.ne h.core.st.typed)
 ·exact Or.inr (Or.inl (ht.ne h.core.cl.blk.typed))
 ·exact Or.inr (Or.inr (Or.inl (ht.ne h.core.al.typed)))
 ·exact Or.inr (Or.inr (Or.inr (ht.ne h.core.ja.typed)))
theorem Lk.turn {w w':World} {A:Adr} {O:Nat→Prop} {x x':Sig.Link} {vt:Value} (h:Lk w A O x vt) (h':Core w' A x' vt) (ho:Only (Own A) w w') (ht:x'.told=x.told):(Lk w' A (qbe O w w') x' vt)∧Only (Wr A O w) w w':=by
 refine⟨⟨h',?_,fun k hk=>?_⟩,ho.mono (fun k hk=>Or.inl hk)⟩
 ·rw[ht];exact Kd.R_mono (Kd.R_step h.told (fun k hk hlt=>ho.block k hlt (h.lt k hk).2)) (fun k hk=>Or.inl hk)
 ·rcases hk with hk|hk
  ·exact⟨Nat.lt_of_lt_of_le (h.lt k hk).1 ho.size,(h.lt k hk).2⟩
  ·exact⟨hk.2,fun hn=>by have:=h.own_lt k hn;omega⟩
theorem qq0 {A:Adr} {O:Nat→Prop} {x:Sig.Link} {vt v1:Value} {w W0 w1:World} (h:Lk w A O x vt) (hb:Below w.heap.size w W0) (hs:W0.heap.size=w.heap.size+1) (t:Sig.Told) (hon:Only (fun k=>some k=vt.ownBlock) W0 w1) (hR:kT.R 184 w1 0 (fun k=>O k∨w.heap.size≤k) v1 (x.told++[t])) (hc:Core w1 A x vt) :
  qqs A O w (x.tell t) (.tuple #[]) (.returned (.tuple #[])) (w1.setCell ⟨A.s,23,none⟩ v1):=by
 have hA:=h.own_lt A.s (Or.inl rfl);have hsz:=qa0 w1 ⟨A.s,23,none⟩ v1;have hon':=hon.size;refine⟨rfl,⟨v1,?_,?_,fun k hk=>?_⟩,?_⟩
 ·have h':=hc.setS 9 v1 x.o x.leak v1 x.fails rfl;exact⟨h'.st,h'.cl,h'.al,h'.ja,h'.tl,h'.tk⟩
 ·refine Kd.R_mono (Kd.R_far (Kd.R_bound hR) (p:=⟨A.s,23,none⟩) (fun k hk=>?_) v1) (fun k hk=>?_)
  ·rcases hk.1 with hk|hk
   ·exact fun e=>(h.lt k hk).2 (Or.inl e)
   ·exact fun e=>by simp only at e;omega
  ·rcases hk.1 with h1|h1
   ·exact Or.inl h1
   ·exact Or.inr ⟨h1,by rw[hsz];exact hk.2.2.1⟩
 ·rcases hk with hk|hk
  ·exact⟨by have:=(h.lt k hk).1;omega,(h.lt k hk).2⟩
  ·exact⟨hk.2,fun hn=>by have:=h.own_lt k hn;omega⟩
 ·refine⟨hon.os.trans hb.os,hon.tape.trans hb.tape,hon.output.trans hb.output,by omega,fun k hk hn=>?_⟩;refine(Below.heap_setCell w1 _ v1 k (fun e=>hn (Or.inl (Or.inl e)))).trans ((hon.block k (by omega) (fun e=>hn (Or.inr ⟨?_,qom (Kd.R_typed h.told k e.symm)⟩))).trans (hb.block k hk));exact h.told.1 k e.symm
theorem qa5 {A:Adr} {O:Nat→Prop} {x:Sig.Link} {vt:Value} {w:World} (h:Lk w A O x vt) (hl:x.told.length≤1000000) (t:Sig.Told) (v:Value) (hv:(Kd.int .u8).R 5 w 0 O v (t.p.map (fun n:Nat=>(n:Int)))) :
  Calls Tryz.prog 88 #[.pointer (some ⟨A.s,0,none⟩),.agg #[.int .u8 t.kind,.int .u8 t.why,v]] w (qqs A O w (x.tell t) (.tuple #[])):=by
 obtain⟨Av,cv,rfl⟩:=Kd.R_slice hv;rw[List.length_map] at hv ⊢;obtain⟨At,ct,rfl⟩:=Kd.R_slice h.told;have H:=am (h.core.alloc (.cells #[.int .u8 t.kind,.int .u8 t.why,.slice Av t.p.length cv] 184));have HV:=am hv;have HL:=am hl;have H0:=am h;clear h hv hl;have h1:=H.out;obtain⟨s0,s14,s15,s16,s17,s18,s19,s20,s21,s22,s23,s24,z0,z18,z19,z20,z21,z22,z23,z24⟩:=h1.fs;clear h1;go_enter Tryz.func88,Tryz.ntmps88
 go_wp2_with fail
 have b0:(w.alloc (.cells #[.int .u8 t.kind,.int .u8 t.why,.slice Av t.p.length cv] 184)).cell? ⟨w.heap.size,0,none⟩=some (.int .u8 t.kind):=by rw[World.cell?_alloc_mark];rfl
 have b1:(w.alloc (.cells #[.int .u8 t.kind,.int .u8 t.why,.slice Av t.p.length cv] 184)).cell? ⟨w.heap.size,1,none⟩=some (.int .u8 t.why):=by rw[World.cell?_alloc_mark];rfl
 have b2:(w.alloc (.cells #[.int .u8 t.kind,.int .u8 t.why,.slice Av t.p.length cv] 184)).cell? ⟨w.heap.size,2,none⟩=some (.slice Av t.p.length cv):=by rw[World.cell?_alloc_mark];rfl
 have hb:Below w.heap.size w (w.alloc (.cells #[.int .u8 t.kind,.int .u8 t.why,.slice Av t.p.length cv] 184)).drew:=qad (qaa (Below.refl _ _) _);have hs:(w.alloc (.cells #[.int .u8 t.kind,.int .u8 t.why,.slice Av t.p.length cv] 184)).drew.heap.size=w.heap.size+1:=by simp[World.alloc_eq,World.drew]
 refine sr 11 (fun W=>W.cell? ⟨A.s,23,none⟩=some (.slice At x.told.length ct)∧W.cell? ⟨w.heap.size,0,none⟩=some (.int .u8 t.kind)∧W.cell? ⟨w.heap.size,1,none⟩=some (.int .u8 t.why)∧W.cell? ⟨w.heap.size,2,none⟩=some (.slice Av t.p.length cv)) [7,10] (show _∧_∧_∧_ from ⟨s23,b0,b1,b2⟩) (fun hY=>?_);have HC:=am H.out.drew;have HBX:=am hb;have HSX:=am hs;clear H s0 s14 s15 s16 s17 s18 s19 s20 s21 s22 s23 s24 z0 z18 z19 z20 z21 z22 z23 z24 b0 b1 b2 hb hs;generalize (w.alloc (.cells #[.int .u8 t.kind,.int .u8 t.why,.slice Av t.p.length cv] 184)).drew=W0 at HC HBX HSX hY ⊢;refine pu 0 4 ?_;refine pu 1 5 ?_;refine pu 2 6 ?_;refine pu 3 7 ?_;refine tk 4 8 hY ?_;refine tk 5 9 hY ?_;refine on_ 6 10 (fun K hK=>?_);refine qbf (w1:=?_) (v:=?_) (by rfl) rfl ?_ ?_;rotate_left 2
 ·go_simp;constructor
  ·rfl
  ·rfl
 refine hK.out _ _ (⟨qae (qaa (Below.refl W0.heap.size W0) (.cells #[.int .u8 t.kind,.int .u8 t.why,.slice Av t.p.length cv] 184)) hY.1,qae (qaa (Below.refl W0.heap.size W0) (.cells #[.int .u8 t.kind,.int .u8 t.why,.slice Av t.p.length cv] 184)) hY.2.1,qae (qaa (Below.refl W0.heap.size W0) (.cells #[.int .u8 t.kind,.int .u8 t.why,.slice Av t.p.length cv] 184)) hY.2.2.1,qae (qaa (Below.refl W0.heap.size W0) (.cells #[.int .u8 t.kind,.int .u8 t.why,.slice Av t.p.length cv] 184)) hY.2.2.2⟩) (fun hY=>?_);clear hK K;refine la_ 7 11 (fun K hK=>?_);refine Kd.R_append_step kT (w0:=W0) (W:=W0) 0 (by rfl) (.tmp 8) (.tmp 10) 52 184 (.agg #[.int .u8 0,.int .u8 0,.slice none 0 0]) 32 rfl Tryz.underlying52 qps rfl (by decide) (by omega) (.slice At x.told.length ct) x.told t [.int .u8 t.kind,.int .u8 t.why,.slice Av t.p.length cv] (fun k=>O k∨w.heap.size≤k) (fun k=>O k∧Typed w k 5) rfl rfl ?aP ?aK ?aF ?aO ?aB ?aS ?aL ?_
 case aP=>exact qvr _ _ _ t (Kd.R_mono (Kd.R_below (Kd.R_bound HV.out) HBX.out) (fun k hk=>⟨hk.1,by obtain⟨q,hq,c,e⟩:=hk.2.2.2;rcases List.mem_cons.1 hq with rfl|hq;exact⟨c,_,e⟩;exact absurd hq (List.not_mem_nil)⟩))
 case aK=>exact fun k hk=>⟨Or.inl hk.1,fun e=>absurd (hk.2.ne (qom (Kd.R_typed H0.out.told k e.symm))) (by decide)⟩
 case aF=>exact fun k hk=>Or.inr (by have:=HSX.out;omega)
 case aO=>exact Kd.R_mono (Kd.R_below H0.out.told HBX.out) (fun k hk=>Or.inl hk)
 case aB=>exact Below.refl _ _
 case aS=>exact Nat.zero_le _
 case aL=>have:=HL.out;omega
 intro v1 w1 hR1 _ hg1 _;obtain⟨A1,c1,rfl⟩:=Kd.R_slice hR1;refine hK.out _ _ ?_;clear hK K hY;refine nm 11 ?_;have hno:∀k,Own A k→¬some k=(Value.slice At x.told.length ct).ownBlock:=fun k hk e=>absurd (H0.out.own_ty k 184 hk (qom (Kd.R_typed H0.out.told k e.symm))) (by decide);have hon:Only (fun k=>some k=(Value.slice At x.told.length ct).ownBlock) W0 w1:=⟨hg1.os,hg1.tape,hg1.output,hg1.size,fun k hk hn=>hg1.block k hk hn⟩;have H1:=am (HC.out.only hon hno);have FIN:=am (qq0 H0.out HBX.out HSX.out t hon hR1 H1.out);clear hR1 hno hon hg1;have f23:=H1.out.st.f 23;have s23:=H1.out.sGet 9 (v:=.slice At x.told.length ct) rfl;refine pu 8 12 ?_;refine pu 9 13 ?_;refine laN 10 (fun K hK=>?_);refine sk ?_;refine hK.out _ _ ?_;clear hK K;refine qav (by kernel_rfl) ?_;go_wp2;go_end0;have F:=FIN.out;rw[List.length_append] at F;exact F
end Go.Proofs.YtjbijdmcceloaaaGreat.Top
