/- Part of the proof of topServes_holds. No condition. -/
import Derived.Test.YtjbijdmcceloaaaGreatQS10
set_option linter.unusedVariables false
set_option linter.unusedSimpArgs false
set_option maxHeartbeats 80000000
set_option maxRecDepth 100000
namespace Go.Proofs.YtjbijdmcceloaaaGreat.Top
open Go Go.RowKit Go.Proofs.YtjbijdmcceloaaaGreat Go.Proofs.YtjbijdmcceloaaaGreatW.PrintWords Go.Proofs.YtjbijdmcceloaaaGreatW.PrintLast Go.Proofs.YtjbijdmcceloaaaGreatW.PrintMore
def qts (l:Sig.Leak):Value:=.agg #[.int .i64 l.n,.int .i64 l.seen]
def qod (o:Sig.Outage):Value:=.agg #[.bool o.own,.bool o.their,.bool o.wait]
theorem qnp (l:Sig.Leak) (b:Bool) (h1:l.n≤1000) (h2:l.seen≤1000) (w:World):Calls Tryz.prog 120 #[qts l,.bool b] w (qm1 w (.tuple #[qts (l.unit b).1,.bool (l.unit b).2])):=qw9 l.n l.seen b h1 h2 w
theorem qnq (l:Sig.Leak) (b:Bool) (h1:l.n≤1000) (h2:l.seen≤1000):(l.unit b).1.n≤1001∧(l.unit b).1.seen≤1001:=by
 unfold Sig.Leak.unit;by_cases a1:0<l.n
 ·by_cases a2:256≤l.seen+1
  ·cases b <;> simp[a1,a2] <;> first|omega|(split <;> omega)
  ·cases b <;> simp[a1,a2] <;> first|omega|(split <;> omega)
 ·cases b <;> simp[a1] <;> first|omega|(split <;> omega)
theorem qc7 (o:Sig.Outage) (b:Bool) (w:World):Calls Tryz.prog 132 #[qod o,.bool b] w (qm1 w (.tuple #[qod (o.remote b).1,.bool (o.remote b).2])):=qua o.own o.their o.wait b _ _ w rfl rfl
theorem qkj (o:Sig.Outage) (b:Bool) (w:World):Calls Tryz.prog 92 #[qod o,.bool b] w (qm1 w (qod { o with own:=b })):=by
 unfold qod;go_enter Tryz.func92,Tryz.ntmps92;go_wp2;exact bodyPost_ret (v:=.agg #[.bool b,.bool o.their,.bool o.wait]) (by simp[results,Tryz.results92,go_sem]) rfl ⟨rfl,by first|exact qaa (qaa (Below.refl _ _) _) _|exact qaa (Below.refl _ _) _⟩
theorem qgj (o:Sig.Outage) (w:World):Calls Tryz.prog 66 #[qod o] w (qm1 w (.tuple #[qod o.continue.1,.bool o.continue.2])):=qp7 o.own o.their o.wait _ _ w (by rcases o with ⟨a,b,c⟩;cases a <;> cases b <;> cases c <;> rfl) (by rcases o with ⟨a,b,c⟩;cases a <;> cases b <;> cases c <;> rfl)
theorem Lk.own_not {w:World} {A:Adr} {O:Nat→Prop} {x:Sig.Link} {vt:Value} (h:Lk w A O x vt) {k t:Nat} (ht:Typed w k t) (hn:t≠54∧t≠152∧t≠62∧t≠177):¬Own A k:=fun hk=>by
 obtain⟨t',h1,h2⟩:=h.ownT k hk;have:=ht.ne h1;omega
theorem qdb (x:Sig.Link) (why:Nat):(x.fail why).w=x.w:=by unfold Sig.Link.fail;split <;> rfl
theorem qga (x:Sig.Link):x.serve.w=x.w:=by unfold Sig.Link.serve;simp only;split <;> rfl
theorem qvc (x:Sig.Link) (i:Nat):(x.out i).w=x.w:=by
 have hf:=qdb;unfold Sig.Link.out;split
 ·rfl
 split
 ·simp only;have:(x.aOut i).1.w=x.w:=by unfold Sig.Link.aOut;split;rfl;split <;> rfl
  split
  ·rw[hf];exact this
  split
  ·exact this
  ·exact this
 split
 ·exact hf _ _
 split
 ·exact hf _ _
 ·simp only;have:(x.jOut i).1.w=x.w:=by unfold Sig.Link.jOut;split;rfl;split <;> rfl
  split
  ·rw[hf];exact this
  ·exact this
theorem qh0 (x:Sig.Link) (b:Bool):(x.aUnit b).1.w=x.w∧(x.aUnit b).1.told=x.told∧(x.aUnit b).1.fails=x.fails:=by
 unfold Sig.Link.aUnit;split
 ·exact⟨rfl,rfl,rfl⟩
 simp only;split
 ·exact⟨rfl,rfl,rfl⟩
 split
 ·have e:∀y:Sig.Link,y.prove.w=y.w∧y.prove.told=y.told∧y.prove.fails=y.fails:=by
   intro y;unfold Sig.Link.prove;simp only;split <;> exact⟨rfl,rfl,rfl⟩
  exact e _
 ·exact⟨rfl,rfl,rfl⟩
theorem qgw {A:Adr} {O:Nat→Prop} {x:Sig.Link} {vt:Value} {w:World} (h:Lk w A O x vt) (hw:WayAt w A O x.w) (hf:x.fails<1000000) (hl:x.told.length≤1000000) (hn:x.a.p.n≤1000) (ht:x.a.p.tries≤1000) (hk:x.leak.n≤1000) (hks:x.leak.seen≤1000) (b:Bool) :
  Calls Tryz.prog 102 #[.pointer (some ⟨A.s,0,none⟩),.bool b] w (qe0 A O w (x.count b) (.tuple #[])):=by
 have H0:=am (FAt.refl h hw);have HF:=am hf;have HL:=am hl;have HN:=am hn;have HT:=am ht;have HK:=am hk;have HKS:=am hks;obtain⟨s0,s14,s15,s16,s17,s18,s19,s20,s21,s22,s23,s24,z0,z18,z19,z20,z21,z22,z23,z24⟩:=h.core.fs;clear h hw hf hl hn ht hk hks;by_cases h0:x.s=0
 ·have e0:=b_t x.s 0 (by omega);have hp:x.count b=x:=by unfold Sig.Link.count;rw[if_pos h0]
  rw[hp];clear hp h0;go_enter Tryz.func102,Tryz.ntmps102
  go_wp2_with fail
  go_end0;exact H0.out.fin
 ·by_cases h1:x.s=1
  ·have e0:=b_f x.s 0 (by omega);have e1:=b_t x.s 1 (by omega);obtain⟨⟨y,why⟩,hy⟩:∃p,x.aUnit b=p:=⟨_,rfl⟩;have HY:=am hy;have hkp:=qh0 x b;rw[hy] at hkp;have HKP:=am hkp;have hcall:=ql7 H0.out.lk.core b HN.out HT.out;rw[hy] at hcall;have HC:=am hcall;clear hy hkp hcall;by_cases hwhy:why=0
   ·have ew:(((why:Nat):Int) != (0))=false:=(by rw[bne_eq_false_iff_eq];omega);have hp:x.count b=y:=by unfold Sig.Link.count;rw[if_neg h0,if_pos h1,HY.out];exact if_neg (by simp[hwhy])
    rw[hp];clear hp h0 h1 hwhy;go_enter Tryz.func102,Tryz.ntmps102
    go_wp2_with fail
    refine HC.out.mono ?_;rintro e w1 ⟨rfl,h',o'⟩;have H1:=am (H0.out.turn h' o' HKP.out.2.1 HKP.out.1);clear h' o';clear s0 s14 s15 s16 s17 s18 s19 s20 s21 s22 s23 s24 z0 z18 z19 z20 z21 z22 z23 z24;have hfs:=H1.out.lk.core;obtain⟨s0,s14,s15,s16,s17,s18,s19,s20,s21,s22,s23,s24,z0,z18,z19,z20,z21,z22,z23,z24⟩:=hfs.fs;clear hfs
    go_wp2_with fail
    go_end0;exact H1.out.fin
   ·have ew:(((why:Nat):Int) != (0))=true:=bne_iff_ne.2 (by omega);have hp:x.count b=y.fail why:=by unfold Sig.Link.count;rw[if_neg h0,if_pos h1,HY.out];exact if_pos hwhy
    rw[hp];clear hp h0 h1 hwhy;go_enter Tryz.func102,Tryz.ntmps102
    go_wp2_with fail
    refine HC.out.mono ?_;rintro e w1 ⟨rfl,h',o'⟩;have H1:=am (H0.out.turn h' o' HKP.out.2.1 HKP.out.1);clear h' o';clear s0 s14 s15 s16 s17 s18 s19 s20 s21 s22 s23 s24 z0 z18 z19 z20 z21 z22 z23 z24;have hfs:=H1.out.lk.core;obtain⟨s0,s14,s15,s16,s17,s18,s19,s20,s21,s22,s23,s24,z0,z18,z19,z20,z21,z22,z23,z24⟩:=hfs.fs;clear hfs
    go_wp2_with fail
    refine(qa3 H1.out.lk (by rw[HKP.out.2.2];exact HF.out) (by rw[HKP.out.2.1];exact HL.out) why).mono ?_;rintro e w2 h';obtain⟨rfl,vt2,h''⟩:=H1.out.acts h' (qdb y why);have H2:=am h'';clear h' h'';go_wp2;go_end0;exact H2.out.fin
  ·have e0:=b_f x.s 0 (by omega);have e1:=b_f x.s 1 (by omega);obtain⟨⟨l,bad⟩,hy⟩:∃p,x.leak.unit b=p:=⟨_,rfl⟩;have hcall:=qnp x.leak b HK.out HKS.out;rw[hy] at hcall;have hl1:=qnq x.leak b HK.out HKS.out;rw[hy] at hl1;unfold qts at hcall;have HC:=am hcall;have hu:x.count b=(if bad then (Sig.Link.fail { x with leak:=l } 1) else { x with leak:=l }):=by unfold Sig.Link.count;rw[if_neg h0,if_neg h1,hy]
   have HU:=am hu;clear hy hu hcall h0 h1;cases bad
   ·rw[HU.out];rw[if_neg (by decide)];go_enter Tryz.func102,Tryz.ntmps102
    go_wp2_with fail
    refine(HC.out _).mono ?_;rintro e w1 ⟨rfl,hb⟩;have H1:=am (H0.out.below hb);clear hb;clear s0 s14 s15 s16 s17 s18 s19 s20 s21 s22 s23 s24 z0 z18 z19 z20 z21 z22 z23 z24;have hfs:=H1.out.lk.core;obtain⟨s0,s14,s15,s16,s17,s18,s19,s20,s21,s22,s23,s24,z0,z18,z19,z20,z21,z22,z23,z24⟩:=hfs.fs;clear hfs;replace s21:=fun (o:Obj)=>Lib.cell?_alloc_some (W:=w1) o s21;replace s22:=fun (o:Obj)=>Lib.cell?_alloc_some (W:=w1) o s22;have zz:=fun (o:Obj) (j:Nat)=>(H1.out.lk.core.st.alloc o).f j
    go_wp2_with fail
    have H2:=am (H1.out.below (qaa (Below.refl _ _) (.cells #[.int .i64 (l.n:Nat),.int .i64 (l.seen:Nat)] 51)));have c':=H2.out.lk.core.up1 7 (.int .i64 (l.n:Nat)) ⟨x.o.own,x.o.their,x.o.wait⟩ ⟨l.n,x.leak.seen⟩ vt x.fails rfl;have c':=c'.up1 8 (.int .i64 (l.seen:Nat)) ⟨x.o.own,x.o.their,x.o.wait⟩ ⟨l.n,l.seen⟩ vt x.fails rfl;have o':=(((Only.refl (Own A) (w1.alloc (.cells #[.int .i64 (l.n:Nat),.int .i64 (l.seen:Nat)] 51))).trans (qaz 21 (.int .i64 (l.n:Nat)))).trans (qaz 22 (.int .i64 (l.seen:Nat))));generalize (((w1.alloc (.cells #[.int .i64 (l.n:Nat),.int .i64 (l.seen:Nat)] 51)).setCell ⟨A.s,21,none⟩ (.int .i64 (l.n:Nat))).setCell ⟨A.s,22,none⟩ (.int .i64 (l.seen:Nat)))=w3 at c' o' ⊢;have H3:qac (FAt A O w (up x x.s ⟨x.o.own,x.o.their,x.o.wait⟩ ⟨l.n,l.seen⟩ x.fails) w3 vt):=⟨H2.out.turn c' o' rfl rfl⟩;have OW3:=am o';clear c' o';go_end0;exact H3.out.fin
   ·rw[HU.out];rw[if_pos rfl];go_enter Tryz.func102,Tryz.ntmps102
    go_wp2_with fail
    refine(HC.out _).mono ?_;rintro e w1 ⟨rfl,hb⟩;have H1:=am (H0.out.below hb);clear hb;clear s0 s14 s15 s16 s17 s18 s19 s20 s21 s22 s23 s24 z0 z18 z19 z20 z21 z22 z23 z24;have hfs:=H1.out.lk.core;obtain⟨s0,s14,s15,s16,s17,s18,s19,s20,s21,s22,s23,s24,z0,z18,z19,z20,z21,z22,z23,z24⟩:=hfs.fs;clear hfs;replace s21:=fun (o:Obj)=>Lib.cell?_alloc_some (W:=w1) o s21;replace s22:=fun (o:Obj)=>Lib.cell?_alloc_some (W:=w1) o s22;have zz:=fun (o:Obj) (j:Nat)=>(H1.out.lk.core.st.alloc o).f j
    go_wp2_with fail
    have H2:=am (H1.out.below (qaa (Below.refl _ _) (.cells #[.int .i64 (l.n:Nat),.int .i64 (l.seen:Nat)] 51)));have c':=H2.out.lk.core.up1 7 (.int .i64 (l.n:Nat)) ⟨x.o.own,x.o.their,x.o.wait⟩ ⟨l.n,x.leak.seen⟩ vt x.fails rfl;have c':=c'.up1 8 (.int .i64 (l.seen:Nat)) ⟨x.o.own,x.o.their,x.o.wait⟩ ⟨l.n,l.seen⟩ vt x.fails rfl;have o':=(((Only.refl (Own A) (w1.alloc (.cells #[.int .i64 (l.n:Nat),.int .i64 (l.seen:Nat)] 51))).trans (qaz 21 (.int .i64 (l.n:Nat)))).trans (qaz 22 (.int .i64 (l.seen:Nat))));generalize (((w1.alloc (.cells #[.int .i64 (l.n:Nat),.int .i64 (l.seen:Nat)] 51)).setCell ⟨A.s,21,none⟩ (.int .i64 (l.n:Nat))).setCell ⟨A.s,22,none⟩ (.int .i64 (l.seen:Nat)))=w3 at c' o' ⊢;have H3:qac (FAt A O w (up x x.s ⟨x.o.own,x.o.their,x.o.wait⟩ ⟨l.n,l.seen⟩ x.fails) w3 vt):=⟨H2.out.turn c' o' rfl rfl⟩;have OW3:=am o';clear c' o';clear s0 s14 s15 s16 s17 s18 s19 s20 s21 s22 s23 s24 z0 z18 z19 z20 z21 z22 z23 z24 zz;have hfs:=H3.out.lk.core;obtain⟨s0,s14,s15,s16,s17,s18,s19,s20,s21,s22,s23,s24,z0,z18,z19,z20,z21,z22,z23,z24⟩:=hfs.fs;clear hfs;refine(qa3 H3.out.lk HF.out HL.out 1).mono ?_;rintro e w4 h';obtain⟨rfl,vt4,h''⟩:=H3.out.acts h' (qdb _ 1);have H4:=am h'';clear h' h'';go_wp2;go_end0;exact H4.out.fin
theorem qgk {A:Adr} {O:Nat→Prop} {x:Sig.Link} {vt:Value} {w:World} (h:Lk w A O x vt) (hw:WayAt w A O x.w) (b:Bool) :
  Calls Tryz.prog 64 #[.pointer (some ⟨A.s,0,none⟩),.bool b] w (qe0 A O w (x.local_ b) (.tuple #[])):=by
 have H0:=am (FAt.refl h hw);obtain⟨s0,s14,s15,s16,s17,s18,s19,s20,s21,s22,s23,s24,z0,z18,z19,z20,z21,z22,z23,z24⟩:=h.core.fs;clear h hw ;have hloc:=qkj x.o b;obtain⟨o0,ho⟩:∃o0,x.o.own=o0:=⟨_,rfl⟩;have HOW:=am ho;unfold qod at hloc;rw[ho] at hloc s18;have HLOC:=am hloc;clear hloc ho;have a18:=fun (o:Obj)=>Lib.cell?_alloc_some (W:=w) o s18;have a19:=fun (o:Obj)=>Lib.cell?_alloc_some (W:=w) o s19;have a20:=fun (o:Obj)=>Lib.cell?_alloc_some (W:=w) o s20;go_enter Tryz.func64,Tryz.ntmps64
 go_wp2_with fail
 refine(HLOC.out _).mono ?_;rintro e w1 ⟨rfl,hb⟩;have hb2:Below w.heap.size w w1:=(qaa (Below.refl _ _) _).trans (hb.mono (by simp[World.alloc_eq]));have hwas:Blk w1 w.heap.size 49 [.bool o0,.bool x.o.their,.bool x.o.wait]:=(hb.block _ (by simp[World.alloc_eq])).trans (heap_alloc_new w _);have HWAS:=am hwas;clear a18 a19 a20 hb hwas;have H1:=am (H0.out.below (hb2));clear hb2;clear s0 s14 s15 s16 s17 s18 s19 s20 s21 s22 s23 s24 z0 z18 z19 z20 z21 z22 z23 z24;have hfs:=H1.out.lk.core;obtain⟨s0,s14,s15,s16,s17,s18,s19,s20,s21,s22,s23,s24,z0,z18,z19,z20,z21,z22,z23,z24⟩:=hfs.fs;clear hfs
 go_wp2_with fail
 have c':=H1.out.lk.core.up1 4 (.bool b) ⟨b,x.o.their,x.o.wait⟩ ⟨x.leak.n,x.leak.seen⟩ vt x.fails rfl;have c':=c'.up1 5 (.bool x.o.their) ⟨b,x.o.their,x.o.wait⟩ ⟨x.leak.n,x.leak.seen⟩ vt x.fails rfl;have c':=c'.up1 6 (.bool x.o.wait) ⟨b,x.o.their,x.o.wait⟩ ⟨x.leak.n,x.leak.seen⟩ vt x.fails rfl;have o':=((((Only.refl (Own A) w1).trans (qaz 18 (.bool b))).trans (qaz 19 (.bool x.o.their))).trans (qaz 20 (.bool x.o.wait)));generalize (((w1.setCell ⟨A.s,18,none⟩ (.bool b)).setCell ⟨A.s,19,none⟩ (.bool x.o.their)).setCell ⟨A.s,20,none⟩ (.bool x.o.wait))=w2 at c' o' ⊢;have H2:qac (FAt A O w (up x x.s ⟨b,x.o.their,x.o.wait⟩ ⟨x.leak.n,x.leak.seen⟩ x.fails) w2 vt):=⟨H1.out.turn c' o' rfl rfl⟩;have OW2:=am o';clear c' o';have hwas:=HWAS.out.only OW2.out (H1.out.lk.own_not HWAS.out.typed (by decide));have b0:=hwas.c 0 rfl;have b1:=hwas.c 1 rfl;have b2:=hwas.c 2 rfl;clear hwas;clear s0 s14 s15 s16 s17 s18 s19 s20 s21 s22 s23 s24 z0 z18 z19 z20 z21 z22 z23 z24;have hfs:=H2.out.lk.core;obtain⟨s0,s14,s15,s16,s17,s18,s19,s20,s21,s22,s23,s24,z0,z18,z19,z20,z21,z22,z23,z24⟩:=hfs.fs;clear hfs;replace s18:w2.cell? ⟨A.s,18,none⟩=some (.bool b):=s18;replace s19:w2.cell? ⟨A.s,19,none⟩=some (.bool x.o.their):=s19;replace s20:w2.cell? ⟨A.s,20,none⟩=some (.bool x.o.wait):=s20;replace s0:w2.cell? ⟨A.s,0,none⟩=some (.int .u8 x.s):=s0;go_still_tail 5,(by kernel_rfl);change wpList _ _ _ _ _ w2.drew;have H3:=am (H2.out.below (qaf (Below.refl _ _)));clear b0 b1 b2;generalize w2.drew=w3 at *;clear s0 s14 s15 s16 s17 s18 s19 s20 s21 s22 s23 s24 z0 z18 z19 z20 z21 z22 z23 z24;have hfs:=H3.out.lk.core;obtain⟨s0,s14,s15,s16,s17,s18,s19,s20,s21,s22,s23,s24,z0,z18,z19,z20,z21,z22,z23,z24⟩:=hfs.fs;clear hfs;replace s18:w3.cell? ⟨A.s,18,none⟩=some (.bool b):=s18;replace s19:w3.cell? ⟨A.s,19,none⟩=some (.bool x.o.their):=s19;replace s20:w3.cell? ⟨A.s,20,none⟩=some (.bool x.o.wait):=s20;replace s0:w3.cell? ⟨A.s,0,none⟩=some (.int .u8 x.s):=s0;cases o0 <;> cases b
 ·have hp:x.local_ false=(up x x.s ⟨false,x.o.their,x.o.wait⟩ ⟨x.leak.n,x.leak.seen⟩ x.fails):=by unfold Sig.Link.local_;rw[if_pos HOW.out];unfold up;rw[←HOW.out]
  go_wp2;go_end0;rw[hp];exact H3.out.fin
 ·have hl:x.local_ true=(if x.s=4∧true=true then (up x x.s ⟨true,x.o.their,x.o.wait⟩ ⟨x.leak.n,x.leak.seen⟩ x.fails).halt else if x.s=5 then (up x x.s ⟨true,x.o.their,x.o.wait⟩ ⟨x.leak.n,x.leak.seen⟩ x.fails).resume else if x.s=2∧true=true then { (up x x.s ⟨true,x.o.their,x.o.wait⟩ ⟨x.leak.n,x.leak.seen⟩ x.fails) with s:=3 } else if x.s=3∧!true then { (up x x.s ⟨true,x.o.their,x.o.wait⟩ ⟨x.leak.n,x.leak.seen⟩ x.fails) with s:=2 } else (up x x.s ⟨true,x.o.their,x.o.wait⟩ ⟨x.leak.n,x.leak.seen⟩ x.fails)):=by unfold Sig.Link.local_;rw[if_neg (by rw[HOW.out];decide)];rfl
  have HL:=am hl;clear hl;by_cases h4:x.s=4
  ·have e4:=b_t x.s 4 (by omega);have e5:=b_f x.s 5 (by omega);have e2:=b_f x.s 2 (by omega);have e3:=b_f x.s 3 (by omega);have hp:x.local_ true=(up x x.s ⟨true,x.o.their,x.o.wait⟩ ⟨x.leak.n,x.leak.seen⟩ x.fails).halt:=by rw[HL.out];simp[h4]
   have HP:=am hp;clear hp h4
   go_wp2_with fail
   refine(qcz H3.out.lk).mono ?_;rintro e w4 h';obtain⟨rfl,vt4,h''⟩:=H3.out.acts h' rfl;have H4:=am h'';clear h' h'';go_wp2;go_end0;rw[HP.out];exact H4.out.fin
  ·skip;by_cases h5:x.s=5
   ·have e5:=b_t x.s 5 (by omega);have e4:=b_f x.s 4 (by omega);have e2:=b_f x.s 2 (by omega);have e3:=b_f x.s 3 (by omega);have hp:x.local_ true=(up x x.s ⟨true,x.o.their,x.o.wait⟩ ⟨x.leak.n,x.leak.seen⟩ x.fails).resume:=by rw[HL.out];simp[h5]
    have HP:=am hp;clear hp h5 h4
    go_wp2_with fail
    refine(qbv H3.out.lk H3.out.way).mono ?_;rintro e w4 h';obtain⟨rfl,vt4,h''⟩:=H3.out.facts h';have H4:=am h'';clear h' h'';go_wp2;go_end0;rw[HP.out];exact H4.out.fin
   ·skip;by_cases h2:x.s=2
    ·have e2:=b_t x.s 2 (by omega);have e4:=b_f x.s 4 (by omega);have e5:=b_f x.s 5 (by omega);have e3:=b_f x.s 3 (by omega);have hp:x.local_ true={ (up x x.s ⟨true,x.o.their,x.o.wait⟩ ⟨x.leak.n,x.leak.seen⟩ x.fails) with s:=3 }:=by rw[HL.out];simp[h2]
     have HP:=am hp;clear hp h2 h4 h5
     go_wp2_with fail
     have c':=H3.out.lk.core.up0 3 (u:=(.int .u8 3)) rfl;have o':=((Only.refl (Own A) w3).trans (qaz 0 (.int .u8 3)));generalize (w3.setCell ⟨A.s,0,none⟩ (.int .u8 3))=w4 at c' o' ⊢;have H4:qac (FAt A O w (up (up x x.s ⟨true,x.o.their,x.o.wait⟩ ⟨x.leak.n,x.leak.seen⟩ x.fails) 3 ⟨(up x x.s ⟨true,x.o.their,x.o.wait⟩ ⟨x.leak.n,x.leak.seen⟩ x.fails).o.own,(up x x.s ⟨true,x.o.their,x.o.wait⟩ ⟨x.leak.n,x.leak.seen⟩ x.fails).o.their,(up x x.s ⟨true,x.o.their,x.o.wait⟩ ⟨x.leak.n,x.leak.seen⟩ x.fails).o.wait⟩ ⟨(up x x.s ⟨true,x.o.their,x.o.wait⟩ ⟨x.leak.n,x.leak.seen⟩ x.fails).leak.n,(up x x.s ⟨true,x.o.their,x.o.wait⟩ ⟨x.leak.n,x.leak.seen⟩ x.fails).leak.seen⟩ (up x x.s ⟨true,x.o.their,x.o.wait⟩ ⟨x.leak.n,x.leak.seen⟩ x.fails).fails) w4 vt):=⟨H3.out.turn c' o' rfl rfl⟩;have OW4:=am o';clear c' o';go_end0;rw[HP.out];exact H4.out.fin
    ·skip;by_cases h3:x.s=3
     ·have e3:=b_t x.s 3 (by omega);have e4:=b_f x.s 4 (by omega);have e5:=b_f x.s 5 (by omega);have e2:=b_f x.s 2 (by omega);have hp:x.local_ true=(up x x.s ⟨true,x.o.their,x.o.wait⟩ ⟨x.leak.n,x.leak.seen⟩ x.fails):=by rw[HL.out];simp[h3]
      have HP:=am hp;clear hp h3 h4 h5 h2;go_wp2;go_end0;rw[HP.out];exact H3.out.fin
     ·skip;have e4:=b_f x.s 4 (by omega);have e5:=b_f x.s 5 (by omega);have e2:=b_f x.s 2 (by omega);have e3:=b_f x.s 3 (by omega);have hp:x.local_ true=(up x x.s ⟨true,x.o.their,x.o.wait⟩ ⟨x.leak.n,x.leak.seen⟩ x.fails):=by rw[HL.out];simp[h4,h5,h2,h3]
      have HP:=am hp;clear hp h4 h5 h2 h3;go_wp2;go_end0;rw[HP.out];exact H3.out.fin
 ·have hl:x.local_ false=(if x.s=4∧false=true then (up x x.s ⟨false,x.o.their,x.o.wait⟩ ⟨x.leak.n,x.leak.seen⟩ x.fails).halt else if x.s=5 then (up x x.s ⟨false,x.o.their,x.o.wait⟩ ⟨x.leak.n,x.leak.seen⟩ x.fails).resume else if x.s=2∧false=true then { (up x x.s ⟨false,x.o.their,x.o.wait⟩ ⟨x.leak.n,x.leak.seen⟩ x.fails) with s:=3 } else if x.s=3∧!false then { (up x x.s ⟨false,x.o.their,x.o.wait⟩ ⟨x.leak.n,x.leak.seen⟩ x.fails) with s:=2 } else (up x x.s ⟨false,x.o.their,x.o.wait⟩ ⟨x.leak.n,x.leak.seen⟩ x.fails)):=by unfold Sig.Link.local_;rw[if_neg (by rw[HOW.out];decide)];rfl
  have HL:=am hl;clear hl;by_cases h4:x.s=4
  ·have e4:=b_t x.s 4 (by omega);have e5:=b_f x.s 5 (by omega);have e2:=b_f x.s 2 (by omega);have e3:=b_f x.s 3 (by omega);have hp:x.local_ false=(up x x.s ⟨false,x.o.their,x.o.wait⟩ ⟨x.leak.n,x.leak.seen⟩ x.fails):=by rw[HL.out];simp[h4]
   have HP:=am hp;clear hp h4;go_wp2;go_end0;rw[HP.out];exact H3.out.fin
  ·skip;by_cases h5:x.s=5
   ·have e5:=b_t x.s 5 (by omega);have e4:=b_f x.s 4 (by omega);have e2:=b_f x.s 2 (by omega);have e3:=b_f x.s 3 (by omega);have hp:x.local_ false=(up x x.s ⟨false,x.o.their,x.o.wait⟩ ⟨x.leak.n,x.leak.seen⟩ x.fails).resume:=by rw[HL.out];simp[h5]
    have HP:=am hp;clear hp h5 h4
    go_wp2_with fail
    refine(qbv H3.out.lk H3.out.way).mono ?_;rintro e w4 h';obtain⟨rfl,vt4,h''⟩:=H3.out.facts h';have H4:=am h'';clear h' h'';go_wp2;go_end0;rw[HP.out];exact H4.out.fin
   ·skip;by_cases h2:x.s=2
    ·have e2:=b_t x.s 2 (by omega);have e4:=b_f x.s 4 (by omega);have e5:=b_f x.s 5 (by omega);have e3:=b_f x.s 3 (by omega);have hp:x.local_ false=(up x x.s ⟨false,x.o.their,x.o.wait⟩ ⟨x.leak.n,x.leak.seen⟩ x.fails):=by rw[HL.out];simp[h2]
     have HP:=am hp;clear hp h2 h4 h5;go_wp2;go_end0;rw[HP.out];exact H3.out.fin
    ·skip;by_cases h3:x.s=3
     ·have e3:=b_t x.s 3 (by omega);have e4:=b_f x.s 4 (by omega);have e5:=b_f x.s 5 (by omega);have e2:=b_f x.s 2 (by omega);have hp:x.local_ false={ (up x x.s ⟨false,x.o.their,x.o.wait⟩ ⟨x.leak.n,x.leak.seen⟩ x.fails) with s:=2 }:=by rw[HL.out];simp[h3]
      have HP:=am hp;clear hp h3 h4 h5 h2
      go_wp2_with fail
      have c':=H3.out.lk.core.up0 2 (u:=(.int .u8 2)) rfl;have o':=((Only.refl (Own A) w3).trans (qaz 0 (.int .u8 2)));generalize (w3.setCell ⟨A.s,0,none⟩ (.int .u8 2))=w4 at c' o' ⊢;have H4:qac (FAt A O w (up (up x x.s ⟨false,x.o.their,x.o.wait⟩ ⟨x.leak.n,x.leak.seen⟩ x.fails) 2 ⟨(up x x.s ⟨false,x.o.their,x.o.wait⟩ ⟨x.leak.n,x.leak.seen⟩ x.fails).o.own,(up x x.s ⟨false,x.o.their,x.o.wait⟩ ⟨x.leak.n,x.leak.seen⟩ x.fails).o.their,(up x x.s ⟨false,x.o.their,x.o.wait⟩ ⟨x.leak.n,x.leak.seen⟩ x.fails).o.wait⟩ ⟨(up x x.s ⟨false,x.o.their,x.o.wait⟩ ⟨x.leak.n,x.leak.seen⟩ x.fails).leak.n,(up x x.s ⟨false,x.o.their,x.o.wait⟩ ⟨x.leak.n,x.leak.seen⟩ x.fails).leak.seen⟩ (up x x.s ⟨false,x.o.their,x.o.wait⟩ ⟨x.leak.n,x.leak.seen⟩ x.fails).fails) w4 vt):=⟨H3.out.turn c' o' rfl rfl⟩;have OW4:=am o';clear c' o';go_end0;rw[HP.out];exact H4.out.fin
     ·skip;have e4:=b_f x.s 4 (by omega);have e5:=b_f x.s 5 (by omega);have e2:=b_f x.s 2 (by omega);have e3:=b_f x.s 3 (by omega);have hp:x.local_ false=(up x x.s ⟨false,x.o.their,x.o.wait⟩ ⟨x.leak.n,x.leak.seen⟩ x.fails):=by rw[HL.out];simp[h4,h5,h2,h3]
      have HP:=am hp;clear hp h4 h5 h2 h3;go_wp2;go_end0;rw[HP.out];exact H3.out.fin
 ·have hp:x.local_ true=(up x x.s ⟨true,x.o.their,x.o.wait⟩ ⟨x.leak.n,x.leak.seen⟩ x.fails):=by unfold Sig.Link.local_;rw[if_pos HOW.out];unfold up;rw[←HOW.out]
  go_wp2;go_end0;rw[hp];exact H3.out.fin
def qe7 (y:Sig.Link) (b:Bool):Sig.Link :=
 if (y.o.remote b).2=false then up y y.s (y.o.remote b).1 y.leak y.fails
 else if b then (if y.s=4 then (Sig.Link.tell (up y y.s (y.o.remote b).1 y.leak y.fails) ⟨4,0,[]⟩).halt else Sig.Link.tell (up y y.s (y.o.remote b).1 y.leak y.fails) ⟨4,0,[]⟩)
 else (Sig.Link.tell (up y y.s (y.o.remote b).1 y.leak y.fails) ⟨5,0,[]⟩).resume
theorem qge (x:Sig.Link) (b:Bool):x.remote b=qe7 (if x.s=2∨x.s=3 then x.serve else x) b:=by
 unfold Sig.Link.remote qe7;simp only;split
 ·rfl
 ·split
  ·rfl
  ·rfl
theorem qe6 (x:Sig.Link):x.serve.told.length=x.told.length+1:=by
 unfold Sig.Link.serve;simp only;split <;> simp[Sig.Link.tell,Sig.Link.stop,Sig.Link.halt,Sig.Link.jClear]
theorem qgb (x:Sig.Link):x.serve.fails=x.fails:=by
 unfold Sig.Link.serve;simp only;split <;> rfl
theorem qdk {A:Adr} {O:Nat→Prop} {x:Sig.Link} {vt:Value} {w:World} (h:Lk w A O x vt) (hw:WayAt w A O x.w) (hl:x.told.length≤900000) (b:Bool) :
  Calls Tryz.prog 122 #[.pointer (some ⟨A.s,0,none⟩),.bool b] w (qe0 A O w (x.remote b) (.tuple #[])):=by
 have H0:=am (FAt.refl h hw);have HL:=am hl;obtain⟨s0,s14,s15,s16,s17,s18,s19,s20,s21,s22,s23,s24,z0,z18,z19,z20,z21,z22,z23,z24⟩:=h.core.fs;clear h hw hl;rw[qge];by_cases hs:x.s=2∨x.s=3
 ·obtain⟨y,hy⟩:∃y,x.serve=y:=⟨_,rfl⟩;have HY:=am hy;have HYL:qac (y.told.length≤900001):=⟨by rw[←hy,qe6];have:=HL.out;omega⟩;rw[if_pos hs];rw[hy];clear hy;by_cases h2:x.s=2
  ·have e2:=b_t x.s 2 (by omega);clear h2 hs;go_enter Tryz.func122,Tryz.ntmps122
   go_wp2_with fail
   refine(qc1 H0.out.lk (by have:=HL.out;omega)).mono ?_;rw[HY.out];rintro e w1 h';obtain⟨rfl,vt1,h''⟩:=H0.out.acts h' (by rw[←HY.out];exact qga x);have H1:=am h'';clear h' h'';clear s0 s14 s15 s16 s17 s18 s19 s20 s21 s22 s23 s24 z0 z18 z19 z20 z21 z22 z23 z24;obtain⟨⟨oo,news⟩,hr⟩:∃p,y.o.remote b=p:=⟨_,rfl⟩;have hu:qe7 y b=(if news=false then (up y y.s oo y.leak y.fails) else if b then (if y.s=4 then (Sig.Link.tell (up y y.s oo y.leak y.fails) ⟨4,0,[]⟩).halt else Sig.Link.tell (up y y.s oo y.leak y.fails) ⟨4,0,[]⟩) else (Sig.Link.tell (up y y.s oo y.leak y.fails) ⟨5,0,[]⟩).resume):=by unfold qe7;rw[hr]
   have hc:=qc7 y.o b;rw[hr] at hc;unfold qod at hc;have HU:=am hu;have HC:=am hc;clear hu hc hr;cases news
   ·skip;have hfs:=H1.out.lk.core;obtain⟨s0,s14,s15,s16,s17,s18,s19,s20,s21,s22,s23,s24,z0,z18,z19,z20,z21,z22,z23,z24⟩:=hfs.fs;clear hfs
    go_wp2_with fail
    refine(HC.out _).mono ?_;rintro e w2 ⟨rfl,hb⟩;have H2:=am (H1.out.below (hb));clear hb;clear s0 s14 s15 s16 s17 s18 s19 s20 s21 s22 s23 s24 z0 z18 z19 z20 z21 z22 z23 z24;have hfs:=H2.out.lk.core;obtain⟨s0,s14,s15,s16,s17,s18,s19,s20,s21,s22,s23,s24,z0,z18,z19,z20,z21,z22,z23,z24⟩:=hfs.fs;clear hfs;replace s18:=fun (o:Obj)=>Lib.cell?_alloc_some (W:=w2) o s18;replace s19:=fun (o:Obj)=>Lib.cell?_alloc_some (W:=w2) o s19;replace s20:=fun (o:Obj)=>Lib.cell?_alloc_some (W:=w2) o s20;have zz:=fun (o:Obj) (j:Nat)=>(H2.out.lk.core.st.alloc o).f j
    go_wp2_with fail
    have H3:=am (H2.out.below (qaa (Below.refl _ _) (.cells #[.bool oo.own,.bool oo.their,.bool oo.wait] 49)));have c':=H3.out.lk.core.up1 4 (.bool oo.own) ⟨oo.own,y.o.their,y.o.wait⟩ ⟨y.leak.n,y.leak.seen⟩ vt1 y.fails rfl;have c':=c'.up1 5 (.bool oo.their) ⟨oo.own,oo.their,y.o.wait⟩ ⟨y.leak.n,y.leak.seen⟩ vt1 y.fails rfl;have c':=c'.up1 6 (.bool oo.wait) ⟨oo.own,oo.their,oo.wait⟩ ⟨y.leak.n,y.leak.seen⟩ vt1 y.fails rfl;have o':=((((Only.refl (Own A) (w2.alloc (.cells #[.bool oo.own,.bool oo.their,.bool oo.wait] 49))).trans (qaz 18 (.bool oo.own))).trans (qaz 19 (.bool oo.their))).trans (qaz 20 (.bool oo.wait)));generalize ((((w2.alloc (.cells #[.bool oo.own,.bool oo.their,.bool oo.wait] 49)).setCell ⟨A.s,18,none⟩ (.bool oo.own)).setCell ⟨A.s,19,none⟩ (.bool oo.their)).setCell ⟨A.s,20,none⟩ (.bool oo.wait))=w4 at c' o' ⊢;have H4:qac (FAt A O w (up y y.s ⟨oo.own,oo.their,oo.wait⟩ ⟨y.leak.n,y.leak.seen⟩ y.fails) w4 vt1):=⟨H3.out.turn c' o' rfl rfl⟩;have OW4:=am o';clear c' o';clear s0 s14 s15 s16 s17 s18 s19 s20 s21 s22 s23 s24 z0 z18 z19 z20 z21 z22 z23 z24 zz;have hfs:=H4.out.lk.core;obtain⟨s0,s14,s15,s16,s17,s18,s19,s20,s21,s22,s23,s24,z0,z18,z19,z20,z21,z22,z23,z24⟩:=hfs.fs;clear hfs
    go_wp2_with fail
    go_wp2;go_end0;rw[HU.out.trans (if_pos (by first|rfl|trivial))];exact H4.out.fin
   cases b
   ·skip;have hfs:=H1.out.lk.core;obtain⟨s0,s14,s15,s16,s17,s18,s19,s20,s21,s22,s23,s24,z0,z18,z19,z20,z21,z22,z23,z24⟩:=hfs.fs;clear hfs
    go_wp2_with fail
    refine(HC.out _).mono ?_;rintro e w2 ⟨rfl,hb⟩;have H2:=am (H1.out.below (hb));clear hb;clear s0 s14 s15 s16 s17 s18 s19 s20 s21 s22 s23 s24 z0 z18 z19 z20 z21 z22 z23 z24;have hfs:=H2.out.lk.core;obtain⟨s0,s14,s15,s16,s17,s18,s19,s20,s21,s22,s23,s24,z0,z18,z19,z20,z21,z22,z23,z24⟩:=hfs.fs;clear hfs;replace s18:=fun (o:Obj)=>Lib.cell?_alloc_some (W:=w2) o s18;replace s19:=fun (o:Obj)=>Lib.cell?_alloc_some (W:=w2) o s19;replace s20:=fun (o:Obj)=>Lib.cell?_alloc_some (W:=w2) o s20;have zz:=fun (o:Obj) (j:Nat)=>(H2.out.lk.core.st.alloc o).f j
    go_wp2_with fail
    have H3:=am (H2.out.below (qaa (Below.refl _ _) (.cells #[.bool oo.own,.bool oo.their,.bool oo.wait] 49)));have c':=H3.out.lk.core.up1 4 (.bool oo.own) ⟨oo.own,y.o.their,y.o.wait⟩ ⟨y.leak.n,y.leak.seen⟩ vt1 y.fails rfl;have c':=c'.up1 5 (.bool oo.their) ⟨oo.own,oo.their,y.o.wait⟩ ⟨y.leak.n,y.leak.seen⟩ vt1 y.fails rfl;have c':=c'.up1 6 (.bool oo.wait) ⟨oo.own,oo.their,oo.wait⟩ ⟨y.leak.n,y.leak.seen⟩ vt1 y.fails rfl;have o':=((((Only.refl (Own A) (w2.alloc (.cells #[.bool oo.own,.bool oo.their,.bool oo.wait] 49))).trans (qaz 18 (.bool oo.own))).trans (qaz 19 (.bool oo.their))).trans (qaz 20 (.bool oo.wait)));generalize ((((w2.alloc (.cells #[.bool oo.own,.bool oo.their,.bool oo.wait] 49)).setCell ⟨A.s,18,none⟩ (.bool oo.own)).setCell ⟨A.s,19,none⟩ (.bool oo.their)).setCell ⟨A.s,20,none⟩ (.bool oo.wait))=w4 at c' o' ⊢;have H4:qac (FAt A O w (up y y.s ⟨oo.own,oo.their,oo.wait⟩ ⟨y.leak.n,y.leak.seen⟩ y.fails) w4 vt1):=⟨H3.out.turn c' o' rfl rfl⟩;have OW4:=am o';clear c' o';clear s0 s14 s15 s16 s17 s18 s19 s20 s21 s22 s23 s24 z0 z18 z19 z20 z21 z22 z23 z24 zz;have hfs:=H4.out.lk.core;obtain⟨s0,s14,s15,s16,s17,s18,s19,s20,s21,s22,s23,s24,z0,z18,z19,z20,z21,z22,z23,z24⟩:=hfs.fs;clear hfs
    go_wp2_with fail
    refine(qa5 H4.out.lk (by show y.told.length≤1000000;have:=HYL.out;omega) ⟨5,0,[]⟩ _ (qa9 _ _)).mono ?_;rintro e w5 h';obtain⟨rfl,vt5,h''⟩:=H4.out.acts h' rfl;have H5:=am h'';clear h' h'';clear s0 s14 s15 s16 s17 s18 s19 s20 s21 s22 s23 s24 z0 z18 z19 z20 z21 z22 z23 z24;have hfs:=H5.out.lk.core;obtain⟨s0,s14,s15,s16,s17,s18,s19,s20,s21,s22,s23,s24,z0,z18,z19,z20,z21,z22,z23,z24⟩:=hfs.fs;clear hfs
    go_wp2_with fail
    refine(qbv H5.out.lk H5.out.way).mono ?_;rintro e w6 h';obtain⟨rfl,vt6,h''⟩:=H5.out.facts h';have H6:=am h'';clear h' h'';go_wp2;go_end0;rw[HU.out.trans ((if_neg (by first|decide|simp)).trans (if_neg (by first|decide|simp)))];exact H6.out.fin
   by_cases h4:y.s=4
   ·have HF4:=am h4;clear h4;have hfs:=H1.out.lk.core;obtain⟨s0,s14,s15,s16,s17,s18,s19,s20,s21,s22,s23,s24,z0,z18,z19,z20,z21,z22,z23,z24⟩:=hfs.fs;clear hfs
    go_wp2_with fail
    refine(HC.out _).mono ?_;rintro e w2 ⟨rfl,hb⟩;have H2:=am (H1.out.below (hb));clear hb;clear s0 s14 s15 s16 s17 s18 s19 s20 s21 s22 s23 s24 z0 z18 z19 z20 z21 z22 z23 z24;have hfs:=H2.out.lk.core;obtain⟨s0,s14,s15,s16,s17,s18,s19,s20,s21,s22,s23,s24,z0,z18,z19,z20,z21,z22,z23,z24⟩:=hfs.fs;clear hfs;replace s18:=fun (o:Obj)=>Lib.cell?_alloc_some (W:=w2) o s18;replace s19:=fun (o:Obj)=>Lib.cell?_alloc_some (W:=w2) o s19;replace s20:=fun (o:Obj)=>Lib.cell?_alloc_some (W:=w2) o s20;have zz:=fun (o:Obj) (j:Nat)=>(H2.out.lk.core.st.alloc o).f j
    go_wp2_with fail
    have H3:=am (H2.out.below (qaa (Below.refl _ _) (.cells #[.bool oo.own,.bool oo.their,.bool oo.wait] 49)));have c':=H3.out.lk.core.up1 4 (.bool oo.own) ⟨oo.own,y.o.their,y.o.wait⟩ ⟨y.leak.n,y.leak.seen⟩ vt1 y.fails rfl;have c':=c'.up1 5 (.bool oo.their) ⟨oo.own,oo.their,y.o.wait⟩ ⟨y.leak.n,y.leak.seen⟩ vt1 y.fails rfl;have c':=c'.up1 6 (.bool oo.wait) ⟨oo.own,oo.their,oo.wait⟩ ⟨y.leak.n,y.leak.seen⟩ vt1 y.fails rfl;have o':=((((Only.refl (Own A) (w2.alloc (.cells #[.bool oo.own,.bool oo.their,.bool oo.wait] 49))).trans (qaz 18 (.bool oo.own))).trans (qaz 19 (.bool oo.their))).trans (qaz 20 (.bool oo.wait)));generalize ((((w2.alloc (.cells #[.bool oo.own,.bool oo.their,.bool oo.wait] 49)).setCell ⟨A.s,18,none⟩ (.bool oo.own)).setCell ⟨A.s,19,none⟩ (.bool oo.their)).setCell ⟨A.s,20,none⟩ (.bool oo.wait))=w4 at c' o' ⊢;have H4:qac (FAt A O w (up y y.s ⟨oo.own,oo.their,oo.wait⟩ ⟨y.leak.n,y.leak.seen⟩ y.fails) w4 vt1):=⟨H3.out.turn c' o' rfl rfl⟩;have OW4:=am o';clear c' o';clear s0 s14 s15 s16 s17 s18 s19 s20 s21 s22 s23 s24 z0 z18 z19 z20 z21 z22 z23 z24 zz;have hfs:=H4.out.lk.core;obtain⟨s0,s14,s15,s16,s17,s18,s19,s20,s21,s22,s23,s24,z0,z18,z19,z20,z21,z22,z23,z24⟩:=hfs.fs;clear hfs
    go_wp2_with fail
    refine(qa5 H4.out.lk (by show y.told.length≤1000000;have:=HYL.out;omega) ⟨4,0,[]⟩ _ (qa9 _ _)).mono ?_;rintro e w5 h';obtain⟨rfl,vt5,h''⟩:=H4.out.acts h' rfl;have H5:=am h'';clear h' h'';clear s0 s14 s15 s16 s17 s18 s19 s20 s21 s22 s23 s24 z0 z18 z19 z20 z21 z22 z23 z24;have hfs:=H5.out.lk.core;obtain⟨s0,s14,s15,s16,s17,s18,s19,s20,s21,s22,s23,s24,z0,z18,z19,z20,z21,z22,z23,z24⟩:=hfs.fs;clear hfs;have e4:(((y.s:Nat):Int)==4)=true:=beq_iff_eq.2 (by have:=HF4.out;omega);replace s0:w5.cell? ⟨A.s,0,none⟩=some (.int .u8 (y.s:Nat)):=s0
    go_wp2_with fail
    refine(qcz H5.out.lk).mono ?_;rintro e w6 h';obtain⟨rfl,vt6,h''⟩:=H5.out.acts h' rfl;have H6:=am h'';clear h' h'';go_wp2;go_end0;rw[HU.out.trans ((if_neg (by first|decide|simp)).trans ((if_pos (by first|rfl|trivial)).trans (if_pos HF4.out)))];exact H6.out.fin
   ·have HF4:=am h4;clear h4;have hfs:=H1.out.lk.core;obtain⟨s0,s14,s15,s16,s17,s18,s19,s20,s21,s22,s23,s24,z0,z18,z19,z20,z21,z22,z23,z24⟩:=hfs.fs;clear hfs
    go_wp2_with fail
    refine(HC.out _).mono ?_;rintro e w2 ⟨rfl,hb⟩;have H2:=am (H1.out.below (hb));clear hb;clear s0 s14 s15 s16 s17 s18 s19 s20 s21 s22 s23 s24 z0 z18 z19 z20 z21 z22 z23 z24;have hfs:=H2.out.lk.core;obtain⟨s0,s14,s15,s16,s17,s18,s19,s20,s21,s22,s23,s24,z0,z18,z19,z20,z21,z22,z23,z24⟩:=hfs.fs;clear hfs;replace s18:=fun (o:Obj)=>Lib.cell?_alloc_some (W:=w2) o s18;replace s19:=fun (o:Obj)=>Lib.cell?_alloc_some (W:=w2) o s19;replace s20:=fun (o:Obj)=>Lib.cell?_alloc_some (W:=w2) o s20;have zz:=fun (o:Obj) (j:Nat)=>(H2.out.lk.core.st.alloc o).f j
    go_wp2_with fail
    have H3:=am (H2.out.below (qaa (Below.refl _ _) (.cells #[.bool oo.own,.bool oo.their,.bool oo.wait] 49)));have c':=H3.out.lk.core.up1 4 (.bool oo.own) ⟨oo.own,y.o.their,y.o.wait⟩ ⟨y.leak.n,y.leak.seen⟩ vt1 y.fails rfl;have c':=c'.up1 5 (.bool oo.their) ⟨oo.own,oo.their,y.o.wait⟩ ⟨y.leak.n,y.leak.seen⟩ vt1 y.fails rfl;have c':=c'.up1 6 (.bool oo.wait) ⟨oo.own,oo.their,oo.wait⟩ ⟨y.leak.n,y.leak.seen⟩ vt1 y.fails rfl;have o':=((((Only.refl (Own A) (w2.alloc (.cells #[.bool oo.own,.bool oo.their,.bool oo.wait] 49))).trans (qaz 18 (.bool oo.own))).trans (qaz 19 (.bool oo.their))).trans (qaz 20 (.bool oo.wait)));generalize ((((w2.alloc (.cells #[.bool oo.own,.bool oo.their,.bool oo.wait] 49)).setCell ⟨A.s,18,none⟩ (.bool oo.own)).setCell ⟨A.s,19,none⟩ (.bool oo.their)).setCell ⟨A.s,20,none⟩ (.bool oo.wait))=w4 at c' o' ⊢;have H4:qac (FAt A O w (up y y.s ⟨oo.own,oo.their,oo.wait⟩ ⟨y.leak.n,y.leak.seen⟩ y.fails) w4 vt1):=⟨H3.out.turn c' o' rfl rfl⟩;have OW4:=am o';clear c' o';clear s0 s14 s15 s16 s17 s18 s19 s20 s21 s22 s23 s24 z0 z18 z19 z20 z21 z22 z23 z24 zz;have hfs:=H4.out.lk.core;obtain⟨s0,s14,s15,s16,s17,s18,s19,s20,s21,s22,s23,s24,z0,z18,z19,z20,z21,z22,z23,z24⟩:=hfs.fs;clear hfs
    go_wp2_with fail
    refine(qa5 H4.out.lk (by show y.told.length≤1000000;have:=HYL.out;omega) ⟨4,0,[]⟩ _ (qa9 _ _)).mono ?_;rintro e w5 h';obtain⟨rfl,vt5,h''⟩:=H4.out.acts h' rfl;have H5:=am h'';clear h' h'';clear s0 s14 s15 s16 s17 s18 s19 s20 s21 s22 s23 s24 z0 z18 z19 z20 z21 z22 z23 z24;have hfs:=H5.out.lk.core;obtain⟨s0,s14,s15,s16,s17,s18,s19,s20,s21,s22,s23,s24,z0,z18,z19,z20,z21,z22,z23,z24⟩:=hfs.fs;clear hfs;have e4:(((y.s:Nat):Int)==4)=false:=beq_eq_false_iff_ne.2 (by have:=HF4.out;omega);replace s0:w5.cell? ⟨A.s,0,none⟩=some (.int .u8 (y.s:Nat)):=s0
    go_wp2_with fail
    go_wp2;go_end0;rw[HU.out.trans ((if_neg (by first|decide|simp)).trans ((if_pos (by first|rfl|trivial)).trans (if_neg HF4.out)))];exact H5.out.fin
  ·have e2:=b_f x.s 2 (by omega);have h3:x.s=3:=by omega
   have e3:=b_t x.s 3 (by omega);clear h3;clear h2 hs;go_enter Tryz.func122,Tryz.ntmps122
   go_wp2_with fail
   refine(qc1 H0.out.lk (by have:=HL.out;omega)).mono ?_;rw[HY.out];rintro e w1 h';obtain⟨rfl,vt1,h''⟩:=H0.out.acts h' (by rw[←HY.out];exact qga x);have H1:=am h'';clear h' h'';clear s0 s14 s15 s16 s17 s18 s19 s20 s21 s22 s23 s24 z0 z18 z19 z20 z21 z22 z23 z24;obtain⟨⟨oo,news⟩,hr⟩:∃p,y.o.remote b=p:=⟨_,rfl⟩;have hu:qe7 y b=(if news=false then (up y y.s oo y.leak y.fails) else if b then (if y.s=4 then (Sig.Link.tell (up y y.s oo y.leak y.fails) ⟨4,0,[]⟩).halt else Sig.Link.tell (up y y.s oo y.leak y.fails) ⟨4,0,[]⟩) else (Sig.Link.tell (up y y.s oo y.leak y.fails) ⟨5,0,[]⟩).resume):=by unfold qe7;rw[hr]
   have hc:=qc7 y.o b;rw[hr] at hc;unfold qod at hc;have HU:=am hu;have HC:=am hc;clear hu hc hr;cases news
   ·skip;have hfs:=H1.out.lk.core;obtain⟨s0,s14,s15,s16,s17,s18,s19,s20,s21,s22,s23,s24,z0,z18,z19,z20,z21,z22,z23,z24⟩:=hfs.fs;clear hfs
    go_wp2_with fail
    refine(HC.out _).mono ?_;rintro e w2 ⟨rfl,hb⟩;have H2:=am (H1.out.below (hb));clear hb;clear s0 s14 s15 s16 s17 s18 s19 s20 s21 s22 s23 s24 z0 z18 z19 z20 z21 z22 z23 z24;have hfs:=H2.out.lk.core;obtain⟨s0,s14,s15,s16,s17,s18,s19,s20,s21,s22,s23,s24,z0,z18,z19,z20,z21,z22,z23,z24⟩:=hfs.fs;clear hfs;replace s18:=fun (o:Obj)=>Lib.cell?_alloc_some (W:=w2) o s18;replace s19:=fun (o:Obj)=>Lib.cell?_alloc_some (W:=w2) o s19;replace s20:=fun (o:Obj)=>Lib.cell?_alloc_some (W:=w2) o s20;have zz:=fun (o:Obj) (j:Nat)=>(H2.out.lk.core.st.alloc o).f j
    go_wp2_with fail
    have H3:=am (H2.out.below (qaa (Below.refl _ _) (.cells #[.bool oo.own,.bool oo.their,.bool oo.wait] 49)));have c':=H3.out.lk.core.up1 4 (.bool oo.own) ⟨oo.own,y.o.their,y.o.wait⟩ ⟨y.leak.n,y.leak.seen⟩ vt1 y.fails rfl;have c':=c'.up1 5 (.bool oo.their) ⟨oo.own,oo.their,y.o.wait⟩ ⟨y.leak.n,y.leak.seen⟩ vt1 y.fails rfl;have c':=c'.up1 6 (.bool oo.wait) ⟨oo.own,oo.their,oo.wait⟩ ⟨y.leak.n,y.leak.seen⟩ vt1 y.fails rfl;have o':=((((Only.refl (Own A) (w2.alloc (.cells #[.bool oo.own,.bool oo.their,.bool oo.wait] 49))).trans (qaz 18 (.bool oo.own))).trans (qaz 19 (.bool oo.their))).trans (qaz 20 (.bool oo.wait)));generalize ((((w2.alloc (.cells #[.bool oo.own,.bool oo.their,.bool oo.wait] 49)).setCell ⟨A.s,18,none⟩ (.bool oo.own)).setCell ⟨A.s,19,none⟩ (.bool oo.their)).setCell ⟨A.s,20,none⟩ (.bool oo.wait))=w4 at c' o' ⊢;have H4:qac (FAt A O w (up y y.s ⟨oo.own,oo.their,oo.wait⟩ ⟨y.leak.n,y.leak.seen⟩ y.fails) w4 vt1):=⟨H3.out.turn c' o' rfl rfl⟩;have OW4:=am o';clear c' o';clear s0 s14 s15 s16 s17 s18 s19 s20 s21 s22 s23 s24 z0 z18 z19 z20 z21 z22 z23 z24 zz;have hfs:=H4.out.lk.core;obtain⟨s0,s14,s15,s16,s17,s18,s19,s20,s21,s22,s23,s24,z0,z18,z19,z20,z21,z22,z23,z24⟩:=hfs.fs;clear hfs
    go_wp2_with fail
    go_wp2;go_end0;rw[HU.out.trans (if_pos (by first|rfl|trivial))];exact H4.out.fin
   cases b
   ·skip;have hfs:=H1.out.lk.core;obtain⟨s0,s14,s15,s16,s17,s18,s19,s20,s21,s22,s23,s24,z0,z18,z19,z20,z21,z22,z23,z24⟩:=hfs.fs;clear hfs
    go_wp2_with fail
    refine(HC.out _).mono ?_;rintro e w2 ⟨rfl,hb⟩;have H2:=am (H1.out.below (hb));clear hb;clear s0 s14 s15 s16 s17 s18 s19 s20 s21 s22 s23 s24 z0 z18 z19 z20 z21 z22 z23 z24;have hfs:=H2.out.lk.core;obtain⟨s0,s14,s15,s16,s17,s18,s19,s20,s21,s22,s23,s24,z0,z18,z19,z20,z21,z22,z23,z24⟩:=hfs.fs;clear hfs;replace s18:=fun (o:Obj)=>Lib.cell?_alloc_some (W:=w2) o s18;replace s19:=fun (o:Obj)=>Lib.cell?_alloc_some (W:=w2) o s19;replace s20:=fun (o:Obj)=>Lib.cell?_alloc_some (W:=w2) o s20;have zz:=fun (o:Obj) (j:Nat)=>(H2.out.lk.core.st.alloc o).f j
    go_wp2_with fail
    have H3:=am (H2.out.below (qaa (Below.refl _ _) (.cells #[.bool oo.own,.bool oo.their,.bool oo.wait] 49)));have c':=H3.out.lk.core.up1 4 (.bool oo.own) ⟨oo.own,y.o.their,y.o.wait⟩ ⟨y.leak.n,y.leak.seen⟩ vt1 y.fails rfl;have c':=c'.up1 5 (.bool oo.their) ⟨oo.own,oo.their,y.o.wait⟩ ⟨y.leak.n,y.leak.seen⟩ vt1 y.fails rfl;have c':=c'.up1 6 (.bool oo.wait) ⟨oo.own,oo.their,oo.wait⟩ ⟨y.leak.n,y.leak.seen⟩ vt1 y.fails rfl;have o':=((((Only.refl (Own A) (w2.alloc (.cells #[.bool oo.own,.bool oo.their,.bool oo.wait] 49))).trans (qaz 18 (.bool oo.own))).trans (qaz 19 (.bool oo.their))).trans (qaz 20 (.bool oo.wait)));generalize ((((w2.alloc (.cells #[.bool oo.own,.bool oo.their,.bool oo.wait] 49)).setCell ⟨A.s,18,none⟩ (.bool oo.own)).setCell ⟨A.s,19,none⟩ (.bool oo.their)).setCell ⟨A.s,20,none⟩ (.bool oo.wait))=w4 at c' o' ⊢;have H4:qac (FAt A O w (up y y.s ⟨oo.own,oo.their,oo.wait⟩ ⟨y.leak.n,y.leak.seen⟩ y.fails) w4 vt1):=⟨H3.out.turn c' o' rfl rfl⟩;have OW4:=am o';clear c' o';clear s0 s14 s15 s16 s17 s18 s19 s20 s21 s22 s23 s24 z0 z18 z19 z20 z21 z22 z23 z24 zz;have hfs:=H4.out.lk.core;obtain⟨s0,s14,s15,s16,s17,s18,s19,s20,s21,s22,s23,s24,z0,z18,z19,z20,z21,z22,z23,z24⟩:=hfs.fs;clear hfs
    go_wp2_with fail
    refine(qa5 H4.out.lk (by show y.told.length≤1000000;have:=HYL.out;omega) ⟨5,0,[]⟩ _ (qa9 _ _)).mono ?_;rintro e w5 h';obtain⟨rfl,vt5,h''⟩:=H4.out.acts h' rfl;have H5:=am h'';clear h' h'';clear s0 s14 s15 s16 s17 s18 s19 s20 s21 s22 s23 s24 z0 z18 z19 z20 z21 z22 z23 z24;have hfs:=H5.out.lk.core;obtain⟨s0,s14,s15,s16,s17,s18,s19,s20,s21,s22,s23,s24,z0,z18,z19,z20,z21,z22,z23,z24⟩:=hfs.fs;clear hfs
    go_wp2_with fail
    refine(qbv H5.out.lk H5.out.way).mono ?_;rintro e w6 h';obtain⟨rfl,vt6,h''⟩:=H5.out.facts h';have H6:=am h'';clear h' h'';go_wp2;go_end0;rw[HU.out.trans ((if_neg (by first|decide|simp)).trans (if_neg (by first|decide|simp)))];exact H6.out.fin
   by_cases h4:y.s=4
   ·have HF4:=am h4;clear h4;have hfs:=H1.out.lk.core;obtain⟨s0,s14,s15,s16,s17,s18,s19,s20,s21,s22,s23,s24,z0,z18,z19,z20,z21,z22,z23,z24⟩:=hfs.fs;clear hfs
    go_wp2_with fail
    refine(HC.out _).mono ?_;rintro e w2 ⟨rfl,hb⟩;have H2:=am (H1.out.below (hb));clear hb;clear s0 s14 s15 s16 s17 s18 s19 s20 s21 s22 s23 s24 z0 z18 z19 z20 z21 z22 z23 z24;have hfs:=H2.out.lk.core;obtain⟨s0,s14,s15,s16,s17,s18,s19,s20,s21,s22,s23,s24,z0,z18,z19,z20,z21,z22,z23,z24⟩:=hfs.fs;clear hfs;replace s18:=fun (o:Obj)=>Lib.cell?_alloc_some (W:=w2) o s18;replace s19:=fun (o:Obj)=>Lib.cell?_alloc_some (W:=w2) o s19;replace s20:=fun (o:Obj)=>Lib.cell?_alloc_some (W:=w2) o s20;have zz:=fun (o:Obj) (j:Nat)=>(H2.out.lk.core.st.alloc o).f j
    go_wp2_with fail
    have H3:=am (H2.out.below (qaa (Below.refl _ _) (.cells #[.bool oo.own,.bool oo.their,.bool oo.wait] 49)));have c':=H3.out.lk.core.up1 4 (.bool oo.own) ⟨oo.own,y.o.their,y.o.wait⟩ ⟨y.leak.n,y.leak.seen⟩ vt1 y.fails rfl;have c':=c'.up1 5 (.bool oo.their) ⟨oo.own,oo.their,y.o.wait⟩ ⟨y.leak.n,y.leak.seen⟩ vt1 y.fails rfl;have c':=c'.up1 6 (.bool oo.wait) ⟨oo.own,oo.their,oo.wait⟩ ⟨y.leak.n,y.leak.seen⟩ vt1 y.fails rfl;have o':=((((Only.refl (Own A) (w2.alloc (.cells #[.bool oo.own,.bool oo.their,.bool oo.wait] 49))).trans (qaz 18 (.bool oo.own))).trans (qaz 19 (.bool oo.their))).trans (qaz 20 (.bool oo.wait)));generalize ((((w2.alloc (.cells #[.bool oo.own,.bool oo.their,.bool oo.wait] 49)).setCell ⟨A.s,18,none⟩ (.bool oo.own)).setCell ⟨A.s,19,none⟩ (.bool oo.their)).setCell ⟨A.s,20,none⟩ (.bool oo.wait))=w4 at c' o' ⊢;have H4:qac (FAt A O w (up y y.s ⟨oo.own,oo.their,oo.wait⟩ ⟨y.leak.n,y.leak.seen⟩ y.fails) w4 vt1):=⟨H3.out.turn c' o' rfl rfl⟩;have OW4:=am o';clear c' o';clear s0 s14 s15 s16 s17 s18 s19 s20 s21 s22 s23 s24 z0 z18 z19 z20 z21 z22 z23 z24 zz;have hfs:=H4.out.lk.core;obtain⟨s0,s14,s15,s16,s17,s18,s19,s20,s21,s22,s23,s24,z0,z18,z19,z20,z21,z22,z23,z24⟩:=hfs.fs;clear hfs
    go_wp2_with fail
    refine(qa5 H4.out.lk (by show y.told.length≤1000000;have:=HYL.out;omega) ⟨4,0,[]⟩ _ (qa9 _ _)).mono ?_;rintro e w5 h';obtain⟨rfl,vt5,h''⟩:=H4.out.acts h' rfl;have H5:=am h'';clear h' h'';clear s0 s14 s15 s16 s17 s18 s19 s20 s21 s22 s23 s24 z0 z18 z19 z20 z21 z22 z23 z24;have hfs:=H5.out.lk.core;obtain⟨s0,s14,s15,s16,s17,s18,s19,s20,s21,s22,s23,s24,z0,z18,z19,z20,z21,z22,z23,z24⟩:=hfs.fs;clear hfs;have e4:(((y.s:Nat):Int)==4)=true:=beq_iff_eq.2 (by have:=HF4.out;omega);replace s0:w5.cell? ⟨A.s,0,none⟩=some (.int .u8 (y.s:Nat)):=s0
    go_wp2_with fail
    refine(qcz H5.out.lk).mono ?_;rintro e w6 h';obtain⟨rfl,vt6,h''⟩:=H5.out.acts h' rfl;have H6:=am h'';clear h' h'';go_wp2;go_end0;rw[HU.out.trans ((if_neg (by first|decide|simp)).trans ((if_pos (by first|rfl|trivial)).trans (if_pos HF4.out)))];exact H6.out.fin
   ·have HF4:=am h4;clear h4;have hfs:=H1.out.lk.core;obtain⟨s0,s14,s15,s16,s17,s18,s19,s20,s21,s22,s23,s24,z0,z18,z19,z20,z21,z22,z23,z24⟩:=hfs.fs;clear hfs
    go_wp2_with fail
    refine(HC.out _).mono ?_;rintro e w2 ⟨rfl,hb⟩;have H2:=am (H1.out.below (hb));clear hb;clear s0 s14 s15 s16 s17 s18 s19 s20 s21 s22 s23 s24 z0 z18 z19 z20 z21 z22 z23 z24;have hfs:=H2.out.lk.core;obtain⟨s0,s14,s15,s16,s17,s18,s19,s20,s21,s22,s23,s24,z0,z18,z19,z20,z21,z22,z23,z24⟩:=hfs.fs;clear hfs;replace s18:=fun (o:Obj)=>Lib.cell?_alloc_some (W:=w2) o s18;replace s19:=fun (o:Obj)=>Lib.cell?_alloc_some (W:=w2) o s19;replace s20:=fun (o:Obj)=>Lib.cell?_alloc_some (W:=w2) o s20;have zz:=fun (o:Obj) (j:Nat)=>(H2.out.lk.core.st.alloc o).f j
    go_wp2_with fail
    have H3:=am (H2.out.below (qaa (Below.refl _ _) (.cells #[.bool oo.own,.bool oo.their,.bool oo.wait] 49)));have c':=H3.out.lk.core.up1 4 (.bool oo.own) ⟨oo.own,y.o.their,y.o.wait⟩ ⟨y.leak.n,y.leak.seen⟩ vt1 y.fails rfl;have c':=c'.up1 5 (.bool oo.their) ⟨oo.own,oo.their,y.o.wait⟩ ⟨y.leak.n,y.leak.seen⟩ vt1 y.fails rfl;have c':=c'.up1 6 (.bool oo.wait) ⟨oo.own,oo.their,oo.wait⟩ ⟨y.leak.n,y.leak.seen⟩ vt1 y.fails rfl;have o':=((((Only.refl (Own A) (w2.alloc (.cells #[.bool oo.own,.bool oo.their,.bool oo.wait] 49))).trans (qaz 18 (.bool oo.own))).trans (qaz 19 (.bool oo.their))).trans (qaz 20 (.bool oo.wait)));generalize ((((w2.alloc (.cells #[.bool oo.own,.bool oo.their,.bool oo.wait] 49)).setCell ⟨A.s,18,none⟩ (.bool oo.own)).setCell ⟨A.s,19,none⟩ (.bool oo.their)).setCell ⟨A.s,20,none⟩ (.bool oo.wait))=w4 at c' o' ⊢;have H4:qac (FAt A O w (up y y.s ⟨oo.own,oo.their,oo.wait⟩ ⟨y.leak.n,y.leak.seen⟩ y.fails) w4 vt1):=⟨H3.out.turn c' o' rfl rfl⟩;have OW4:=am o';clear c' o';clear s0 s14 s15 s16 s17 s18 s19 s20 s21 s22 s23 s24 z0 z18 z19 z20 z21 z22 z23 z24 zz;have hfs:=H4.out.lk.core;obtain⟨s0,s14,s15,s16,s17,s18,s19,s20,s21,s22,s23,s24,z0,z18,z19,z20,z21,z22,z23,z24⟩:=hfs.fs;clear hfs
    go_wp2_with fail
    refine(qa5 H4.out.lk (by show y.told.length≤1000000;have:=HYL.out;omega) ⟨4,0,[]⟩ _ (qa9 _ _)).mono ?_;rintro e w5 h';obtain⟨rfl,vt5,h''⟩:=H4.out.acts h' rfl;have H5:=am h'';clear h' h'';clear s0 s14 s15 s16 s17 s18 s19 s20 s21 s22 s23 s24 z0 z18 z19 z20 z21 z22 z23 z24;have hfs:=H5.out.lk.core;obtain⟨s0,s14,s15,s16,s17,s18,s19,s20,s21,s22,s23,s24,z0,z18,z19,z20,z21,z22,z23,z24⟩:=hfs.fs;clear hfs;have e4:(((y.s:Nat):Int)==4)=false:=beq_eq_false_iff_ne.2 (by have:=HF4.out;omega);replace s0:w5.cell? ⟨A.s,0,none⟩=some (.int .u8 (y.s:Nat)):=s0
    go_wp2_with fail
    go_wp2;go_end0;rw[HU.out.trans ((if_neg (by first|decide|simp)).trans ((if_pos (by first|rfl|trivial)).trans (if_neg HF4.out)))];exact H5.out.fin
 ·rw[if_neg hs];have HYL:qac (x.told.length≤900001):=⟨by have:=HL.out;omega⟩;have h2:¬x.s=2:=fun h=>hs (.inl h);have h3:¬x.s=3:=fun h=>hs (.inr h);have e2:=b_f x.s 2 (by omega);have e3:=b_f x.s 3 (by omega);clear h2 h3 hs;go_enter Tryz.func122,Tryz.ntmps122
  go_wp2_with fail
  clear s0 s14 s15 s16 s17 s18 s19 s20 s21 s22 s23 s24 z0 z18 z19 z20 z21 z22 z23 z24;obtain⟨⟨oo,news⟩,hr⟩:∃p,x.o.remote b=p:=⟨_,rfl⟩;have hu:qe7 x b=(if news=false then (up x x.s oo x.leak x.fails) else if b then (if x.s=4 then (Sig.Link.tell (up x x.s oo x.leak x.fails) ⟨4,0,[]⟩).halt else Sig.Link.tell (up x x.s oo x.leak x.fails) ⟨4,0,[]⟩) else (Sig.Link.tell (up x x.s oo x.leak x.fails) ⟨5,0,[]⟩).resume):=by unfold qe7;rw[hr]
  have hc:=qc7 x.o b;rw[hr] at hc;unfold qod at hc;have HU:=am hu;have HC:=am hc;clear hu hc hr;cases news
  ·skip;have hfs:=H0.out.lk.core;obtain⟨s0,s14,s15,s16,s17,s18,s19,s20,s21,s22,s23,s24,z0,z18,z19,z20,z21,z22,z23,z24⟩:=hfs.fs;clear hfs
   go_wp2_with fail
   refine(HC.out _).mono ?_;rintro e w1 ⟨rfl,hb⟩;have H1:=am (H0.out.below (hb));clear hb;clear s0 s14 s15 s16 s17 s18 s19 s20 s21 s22 s23 s24 z0 z18 z19 z20 z21 z22 z23 z24;have hfs:=H1.out.lk.core;obtain⟨s0,s14,s15,s16,s17,s18,s19,s20,s21,s22,s23,s24,z0,z18,z19,z20,z21,z22,z23,z24⟩:=hfs.fs;clear hfs;replace s18:=fun (o:Obj)=>Lib.cell?_alloc_some (W:=w1) o s18;replace s19:=fun (o:Obj)=>Lib.cell?_alloc_some (W:=w1) o s19;replace s20:=fun (o:Obj)=>Lib.cell?_alloc_some (W:=w1) o s20;have zz:=fun (o:Obj) (j:Nat)=>(H1.out.lk.core.st.alloc o).f j
   go_wp2_with fail
   have H2:=am (H1.out.below (qaa (Below.refl _ _) (.cells #[.bool oo.own,.bool oo.their,.bool oo.wait] 49)));have c':=H2.out.lk.core.up1 4 (.bool oo.own) ⟨oo.own,x.o.their,x.o.wait⟩ ⟨x.leak.n,x.leak.seen⟩ vt x.fails rfl;have c':=c'.up1 5 (.bool oo.their) ⟨oo.own,oo.their,x.o.wait⟩ ⟨x.leak.n,x.leak.seen⟩ vt x.fails rfl;have c':=c'.up1 6 (.bool oo.wait) ⟨oo.own,oo.their,oo.wait⟩ ⟨x.leak.n,x.leak.seen⟩ vt x.fails rfl;have o':=((((Only.refl (Own A) (w1.alloc (.cells #[.bool oo.own,.bool oo.their,.bool oo.wait] 49))).trans (qaz 18 (.bool oo.own))).trans (qaz 19 (.bool oo.their))).trans (qaz 20 (.bool oo.wait)));generalize ((((w1.alloc (.cells #[.bool oo.own,.bool oo.their,.bool oo.wait] 49)).setCell ⟨A.s,18,none⟩ (.bool oo.own)).setCell ⟨A.s,19,none⟩ (.bool oo.their)).setCell ⟨A.s,20,none⟩ (.bool oo.wait))=w3 at c' o' ⊢;have H3:qac (FAt A O w (up x x.s ⟨oo.own,oo.their,oo.wait⟩ ⟨x.leak.n,x.leak.seen⟩ x.fails) w3 vt):=⟨H2.out.turn c' o' rfl rfl⟩;have OW3:=am o';clear c' o';clear s0 s14 s15 s16 s17 s18 s19 s20 s21 s22 s23 s24 z0 z18 z19 z20 z21 z22 z23 z24 zz;have hfs:=H3.out.lk.core;obtain⟨s0,s14,s15,s16,s17,s18,s19,s20,s21,s22,s23,s24,z0,z18,z19,z20,z21,z22,z23,z24⟩:=hfs.fs;clear hfs
   go_wp2_with fail
   go_wp2;go_end0;rw[HU.out.trans (if_pos (by first|rfl|trivial))];exact H3.out.fin
  cases b
  ·skip;have hfs:=H0.out.lk.core;obtain⟨s0,s14,s15,s16,s17,s18,s19,s20,s21,s22,s23,s24,z0,z18,z19,z20,z21,z22,z23,z24⟩:=hfs.fs;clear hfs
   go_wp2_with fail
   refine(HC.out _).mono ?_;rintro e w1 ⟨rfl,hb⟩;have H1:=am (H0.out.below (hb));clear hb;clear s0 s14 s15 s16 s17 s18 s19 s20 s21 s22 s23 s24 z0 z18 z19 z20 z21 z22 z23 z24;have hfs:=H1.out.lk.core;obtain⟨s0,s14,s15,s16,s17,s18,s19,s20,s21,s22,s23,s24,z0,z18,z19,z20,z21,z22,z23,z24⟩:=hfs.fs;clear hfs;replace s18:=fun (o:Obj)=>Lib.cell?_alloc_some (W:=w1) o s18;replace s19:=fun (o:Obj)=>Lib.cell?_alloc_some (W:=w1) o s19;replace s20:=fun (o:Obj)=>Lib.cell?_alloc_some (W:=w1) o s20;have zz:=fun (o:Obj) (j:Nat)=>(H1.out.lk.core.st.alloc o).f j
   go_wp2_with fail
   have H2:=am (H1.out.below (qaa (Below.refl _ _) (.cells #[.bool oo.own,.bool oo.their,.bool oo.wait] 49)));have c':=H2.out.lk.core.up1 4 (.bool oo.own) ⟨oo.own,x.o.their,x.o.wait⟩ ⟨x.leak.n,x.leak.seen⟩ vt x.fails rfl;have c':=c'.up1 5 (.bool oo.their) ⟨oo.own,oo.their,x.o.wait⟩ ⟨x.leak.n,x.leak.seen⟩ vt x.fails rfl;have c':=c'.up1 6 (.bool oo.wait) ⟨oo.own,oo.their,oo.wait⟩ ⟨x.leak.n,x.leak.seen⟩ vt x.fails rfl;have o':=((((Only.refl (Own A) (w1.alloc (.cells #[.bool oo.own,.bool oo.their,.bool oo.wait] 49))).trans (qaz 18 (.bool oo.own))).trans (qaz 19 (.bool oo.their))).trans (qaz 20 (.bool oo.wait)));generalize ((((w1.alloc (.cells #[.bool oo.own,.bool oo.their,.bool oo.wait] 49)).setCell ⟨A.s,18,none⟩ (.bool oo.own)).setCell ⟨A.s,19,none⟩ (.bool oo.their)).setCell ⟨A.s,20,none⟩ (.bool oo.wait))=w3 at c' o' ⊢;have H3:qac (FAt A O w (up x x.s ⟨oo.own,oo.their,oo.wait⟩ ⟨x.leak.n,x.leak.seen⟩ x.fails) w3 vt):=⟨H2.out.turn c' o' rfl rfl⟩;have OW3:=am o';clear c' o';clear s0 s14 s15 s16 s17 s18 s19 s20 s21 s22 s23 s24 z0 z18 z19 z20 z21 z22 z23 z24 zz;have hfs:=H3.out.lk.core;obtain⟨s0,s14,s15,s16,s17,s18,s19,s20,s21,s22,s23,s24,z0,z18,z19,z20,z21,z22,z23,z24⟩:=hfs.fs;clear hfs
   go_wp2_with fail
   refine(qa5 H3.out.lk (by show x.told.length≤1000000;have:=HYL.out;omega) ⟨5,0,[]⟩ _ (qa9 _ _)).mono ?_;rintro e w4 h';obtain⟨rfl,vt4,h''⟩:=H3.out.acts h' rfl;have H4:=am h'';clear h' h'';clear s0 s14 s15 s16 s17 s18 s19 s20 s21 s22 s23 s24 z0 z18 z19 z20 z21 z22 z23 z24;have hfs:=H4.out.lk.core;obtain⟨s0,s14,s15,s16,s17,s18,s19,s20,s21,s22,s23,s24,z0,z18,z19,z20,z21,z22,z23,z24⟩:=hfs.fs;clear hfs
   go_wp2_with fail
   refine(qbv H4.out.lk H4.out.way).mono ?_;rintro e w5 h';obtain⟨rfl,vt5,h''⟩:=H4.out.facts h';have H5:=am h'';clear h' h'';go_wp2;go_end0;rw[HU.out.trans ((if_neg (by first|decide|simp)).trans (if_neg (by first|decide|simp)))];exact H5.out.fin
  by_cases h4:x.s=4
  ·have HF4:=am h4;clear h4;have hfs:=H0.out.lk.core;obtain⟨s0,s14,s15,s16,s17,s18,s19,s20,s21,s22,s23,s24,z0,z18,z19,z20,z21,z22,z23,z24⟩:=hfs.fs;clear hfs
   go_wp2_with fail
   refine(HC.out _).mono ?_;rintro e w1 ⟨rfl,hb⟩;have H1:=am (H0.out.below (hb));clear hb;clear s0 s14 s15 s16 s17 s18 s19 s20 s21 s22 s23 s24 z0 z18 z19 z20 z21 z22 z23 z24;have hfs:=H1.out.lk.core;obtain⟨s0,s14,s15,s16,s17,s18,s19,s20,s21,s22,s23,s24,z0,z18,z19,z20,z21,z22,z23,z24⟩:=hfs.fs;clear hfs;replace s18:=fun (o:Obj)=>Lib.cell?_alloc_some (W:=w1) o s18;replace s19:=fun (o:Obj)=>Lib.cell?_alloc_some (W:=w1) o s19;replace s20:=fun (o:Obj)=>Lib.cell?_alloc_some (W:=w1) o s20;have zz:=fun (o:Obj) (j:Nat)=>(H1.out.lk.core.st.alloc o).f j
   go_wp2_with fail
   have H2:=am (H1.out.below (qaa (Below.refl _ _) (.cells #[.bool oo.own,.bool oo.their,.bool oo.wait] 49)));have c':=H2.out.lk.core.up1 4 (.bool oo.own) ⟨oo.own,x.o.their,x.o.wait⟩ ⟨x.leak.n,x.leak.seen⟩ vt x.fails rfl;have c':=c'.up1 5 (.bool oo.their) ⟨oo.own,oo.their,x.o.wait⟩ ⟨x.leak.n,x.leak.seen⟩ vt x.fails rfl;have c':=c'.up1 6 (.bool oo.wait) ⟨oo.own,oo.their,oo.wait⟩ ⟨x.leak.n,x.leak.seen⟩ vt x.fails rfl;have o':=((((Only.refl (Own A) (w1.alloc (.cells #[.bool oo.own,.bool oo.their,.bool oo.wait] 49))).trans (qaz 18 (.bool oo.own))).trans (qaz 19 (.bool oo.their))).trans (qaz 20 (.bool oo.wait)));generalize ((((w1.alloc (.cells #[.bool oo.own,.bool oo.their,.bool oo.wait] 49)).setCell ⟨A.s,18,none⟩ (.bool oo.own)).setCell ⟨A.s,19,none⟩ (.bool oo.their)).setCell ⟨A.s,20,none⟩ (.bool oo.wait))=w3 at c' o' ⊢;have H3:qac (FAt A O w (up x x.s ⟨oo.own,oo.their,oo.wait⟩ ⟨x.leak.n,x.leak.seen⟩ x.fails) w3 vt):=⟨H2.out.turn c' o' rfl rfl⟩;have OW3:=am o';clear c' o';clear s0 s14 s15 s16 s17 s18 s19 s20 s21 s22 s23 s24 z0 z18 z19 z20 z21 z22 z23 z24 zz;have hfs:=H3.out.lk.core;obtain⟨s0,s14,s15,s16,s17,s18,s19,s20,s21,s22,s23,s24,z0,z18,z19,z20,z21,z22,z23,z24⟩:=hfs.fs;clear hfs
   go_wp2_with fail
   refine(qa5 H3.out.lk (by show x.told.length≤1000000;have:=HYL.out;omega) ⟨4,0,[]⟩ _ (qa9 _ _)).mono ?_;rintro e w4 h';obtain⟨rfl,vt4,h''⟩:=H3.out.acts h' rfl;have H4:=am h'';clear h' h'';clear s0 s14 s15 s16 s17 s18 s19 s20 s21 s22 s23 s24 z0 z18 z19 z20 z21 z22 z23 z24;have hfs:=H4.out.lk.core;obtain⟨s0,s14,s15,s16,s17,s18,s19,s20,s21,s22,s23,s24,z0,z18,z19,z20,z21,z22,z23,z24⟩:=hfs.fs;clear hfs;have e4:(((x.s:Nat):Int)==4)=true:=beq_iff_eq.2 (by have:=HF4.out;omega);replace s0:w4.cell? ⟨A.s,0,none⟩=some (.int .u8 (x.s:Nat)):=s0
   go_wp2_with fail
   refine(qcz H4.out.lk).mono ?_;rintro e w5 h';obtain⟨rfl,vt5,h''⟩:=H4.out.acts h' rfl;have H5:=am h'';clear h' h'';go_wp2;go_end0;rw[HU.out.trans ((if_neg (by first|decide|simp)).trans ((if_pos (by first|rfl|trivial)).trans (if_pos HF4.out)))];exact H5.out.fin
  ·have HF4:=am h4;clear h4;have hfs:=H0.out.lk.core;obtain⟨s0,s14,s15,s16,s17,s18,s19,s20,s21,s22,s23,s24,z0,z18,z19,z20,z21,z22,z23,z24⟩:=hfs.fs;clear hfs
   go_wp2_with fail
   refine(HC.out _).mono ?_;rintro e w1 ⟨rfl,hb⟩;have H1:=am (H0.out.below (hb));clear hb;clear s0 s14 s15 s16 s17 s18 s19 s20 s21 s22 s23 s24 z0 z18 z19 z20 z21 z22 z23 z24;have hfs:=H1.out.lk.core;obtain⟨s0,s14,s15,s16,s17,s18,s19,s20,s21,s22,s23,s24,z0,z18,z19,z20,z21,z22,z23,z24⟩:=hfs.fs;clear hfs;replace s18:=fun (o:Obj)=>Lib.cell?_alloc_some (W:=w1) o s18;replace s19:=fun (o:Obj)=>Lib.cell?_alloc_some (W:=w1) o s19;replace s20:=fun (o:Obj)=>Lib.cell?_alloc_some (W:=w1) o s20;have zz:=fun (o:Obj) (j:Nat)=>(H1.out.lk.core.st.alloc o).f j
   go_wp2_with fail
   have H2:=am (H1.out.below (qaa (Below.refl _ _) (.cells #[.bool oo.own,.bool oo.their,.bool oo.wait] 49)));have c':=H2.out.lk.core.up1 4 (.bool oo.own) ⟨oo.own,x.o.their,x.o.wait⟩ ⟨x.leak.n,x.leak.seen⟩ vt x.fails rfl;have c':=c'.up1 5 (.bool oo.their) ⟨oo.own,oo.their,x.o.wait⟩ ⟨x.leak.n,x.leak.seen⟩ vt x.fails rfl;have c':=c'.up1 6 (.bool oo.wait) ⟨oo.own,oo.their,oo.wait⟩ ⟨x.leak.n,x.leak.seen⟩ vt x.fails rfl;have o':=((((Only.refl (Own A) (w1.alloc (.cells #[.bool oo.own,.bool oo.their,.bool oo.wait] 49))).trans (qaz 18 (.bool oo.own))).trans (qaz 19 (.bool oo.their))).trans (qaz 20 (.bool oo.wait)));generalize ((((w1.alloc (.cells #[.bool oo.own,.bool oo.their,.bool oo.wait] 49)).setCell ⟨A.s,18,none⟩ (.bool oo.own)).setCell ⟨A.s,19,none⟩ (.bool oo.their)).setCell ⟨A.s,20,none⟩ (.bool oo.wait))=w3 at c' o' ⊢;have H3:qac (FAt A O w (up x x.s ⟨oo.own,oo.their,oo.wait⟩ ⟨x.leak.n,x.leak.seen⟩ x.fails) w3 vt):=⟨H2.out.turn c' o' rfl rfl⟩;have OW3:=am o';clear c' o';clear s0 s14 s15 s16 s17 s18 s19 s20 s21 s22 s23 s24 z0 z18 z19 z20 z21 z22 z23 z24 zz;have hfs:=H3.out.lk.core;obtain⟨s0,s14,s15,s16,s17,s18,s19,s20,s21,s22,s23,s24,z0,z18,z19,z20,z21,z22,z23,z24⟩:=hfs.fs;clear hfs
   go_wp2_with fail
   refine(qa5 H3.out.lk (by show x.told.length≤1000000;have:=HYL.out;omega) ⟨4,0,[]⟩ _ (qa9 _ _)).mono ?_;rintro e w4 h';obtain⟨rfl,vt4,h''⟩:=H3.out.acts h' rfl;have H4:=am h'';clear h' h'';clear s0 s14 s15 s16 s17 s18 s19 s20 s21 s22 s23 s24 z0 z18 z19 z20 z21 z22 z23 z24;have hfs:=H4.out.lk.core;obtain⟨s0,s14,s15,s16,s17,s18,s19,s20,s21,s22,s23,s24,z0,z18,z19,z20,z21,z22,z23,z24⟩:=hfs.fs;clear hfs;have e4:(((x.s:Nat):Int)==4)=false:=beq_eq_false_iff_ne.2 (by have:=HF4.out;omega);replace s0:w4.cell? ⟨A.s,0,none⟩=some (.int .u8 (x.s:Nat)):=s0
   go_wp2_with fail
   go_wp2;go_end0;rw[HU.out.trans ((if_neg (by first|decide|simp)).trans ((if_pos (by first|rfl|trivial)).trans (if_neg HF4.out)))];exact H4.out.fin
theorem ql8 (x:Sig.Link) (st:Nat):(x.aHeard st).1.w=x.w∧(x.aHeard st).1.told=x.told∧(x.aHeard st).1.fails=x.fails:=by
 have e:∀y:Sig.Link,y.prove.w=y.w∧y.prove.told=y.told∧y.prove.fails=y.fails:=by
  intro y;unfold Sig.Link.prove;simp only;split <;> exact⟨rfl,rfl,rfl⟩
 unfold Sig.Link.aHeard
 dsimp only
 repeat' (first|exact⟨rfl,rfl,rfl⟩|exact e _|split)
theorem qlt (x:Sig.Link) (b:Bool):(x.jHeard b).1.w=x.w∧(x.jHeard b).1.told=x.told∧(x.jHeard b).1.fails=x.fails:=by
 unfold Sig.Link.jHeard;cases b <;> dsimp only [Bool.false_eq_true,if_true,if_false] <;> repeat' (first|exact⟨rfl,rfl,rfl⟩|split)
theorem qjt {A:Adr} {O:Nat→Prop} {x:Sig.Link} {vt:Value} {w:World} (h:Lk w A O x vt) (hw:WayAt w A O x.w) (hf:x.fails<1000000) (hl:x.told.length≤900000) (st:Nat) :
  Calls Tryz.prog 103 #[.pointer (some ⟨A.s,0,none⟩),.int .u8 st] w (qe0 A O w (x.status st) (.tuple #[])):=by
 have hm:=qnn A;have hc:=qhw A;obtain⟨n,hn⟩:∃n,x.w.hold.sent.length=n:=⟨_,rfl⟩;have HN:=am hn;obtain⟨vs,vn,hh⟩:=hw.hold;have HH:=am hh;clear hh hn;have H0:=am (FAt.refl h hw);have HF:=am hf;have HL:=am hl;obtain⟨s0,s14,s15,s16,s17,s18,s19,s20,s21,s22,s23,s24,z0,z18,z19,z20,z21,z22,z23,z24⟩:=h.core.fs;clear h hw hf hl;unfold qcu ptr at s17;by_cases h1:x.s=1
 ·obtain⟨⟨y,why⟩,hy⟩:∃p,x.aHeard st=p:=⟨_,rfl⟩;have HY:=am hy;have hkp:=ql8 x st;rw[hy] at hkp;have HKP:=am hkp;have hcall:=qk0 H0.out.lk.core st;rw[hy] at hcall;have HC:=am hcall;clear hy hkp hcall;by_cases hwhy:why=0
  ·skip;have hp:x.status st=y:=by unfold Sig.Link.status;rw[if_pos h1,HY.out];exact if_neg (by simp[hwhy])
   rw[hp];have e1:=b_t x.s 1 (by omega);have ew:(((why:Nat):Int) != (0))=false:=(by rw[bne_eq_false_iff_eq];omega);clear hp
   try clear h1
   try clear q3'
   try clear q0'
   try clear g4
   try clear q4'
   try clear q5'
   try clear h4
   try clear q1'
   try clear q2'
   try clear hwhy
   try clear h9
   go_enter Tryz.func103,Tryz.ntmps103
   go_wp2_with fail
   refine HC.out.mono ?_;rintro e w1 ⟨rfl,h',o'⟩;have H1:=am (H0.out.turn h' o' HKP.out.2.1 HKP.out.1);clear h' o';clear s0 s14 s15 s16 s17 s18 s19 s20 s21 s22 s23 s24 z0 z18 z19 z20 z21 z22 z23 z24;have hfs:=H1.out.lk.core;obtain⟨s0,s14,s15,s16,s17,s18,s19,s20,s21,s22,s23,s24,z0,z18,z19,z20,z21,z22,z23,z24⟩:=hfs.fs;clear hfs
   go_wp2_with fail
   go_end0;exact H1.out.fin
  ·skip;have hp:x.status st=y.fail why:=by unfold Sig.Link.status;rw[if_pos h1,HY.out];exact if_pos hwhy
   rw[hp];have e1:=b_t x.s 1 (by omega);have ew:(((why:Nat):Int) != (0))=true:=bne_iff_ne.2 (by omega);clear hp
   try clear h1
   try clear q3'
   try clear q0'
   try clear g4
   try clear q4'
   try clear q5'
   try clear h4
   try clear q1'
   try clear q2'
   try clear hwhy
   try clear h9
   go_enter Tryz.func103,Tryz.ntmps103
   go_wp2_with fail
   refine HC.out.mono ?_;rintro e w1 ⟨rfl,h',o'⟩;have H1:=am (H0.out.turn h' o' HKP.out.2.1 HKP.out.1);clear h' o';clear s0 s14 s15 s16 s17 s18 s19 s20 s21 s22 s23 s24 z0 z18 z19 z20 z21 z22 z23 z24;have hfs:=H1.out.lk.core;obtain⟨s0,s14,s15,s16,s17,s18,s19,s20,s21,s22,s23,s24,z0,z18,z19,z20,z21,z22,z23,z24⟩:=hfs.fs;clear hfs
   go_wp2_with fail
   refine(qa3 H1.out.lk (by rw[HKP.out.2.2];exact HF.out) (by rw[HKP.out.2.1];have:=HL.out;omega) why).mono ?_;rintro e w2 h';obtain⟨rfl,vt2,h''⟩:=H1.out.acts h' (qdb y why);have H2:=am h'';clear h' h'';go_wp2;go_end0;exact H2.out.fin
 by_cases q3':st=3
 ·skip;have hp:x.status st=x.fail 8:=by unfold Sig.Link.status;rw[if_neg h1,if_pos q3']
  rw[hp];have e1:=b_f x.s 1 (by omega);have q3:=b_t st 3 (by omega);clear hp
  try clear h1
  try clear q3'
  try clear q0'
  try clear g4
  try clear q4'
  try clear q5'
  try clear h4
  try clear q1'
  try clear q2'
  try clear hwhy
  try clear h9
  go_enter Tryz.func103,Tryz.ntmps103
  go_wp2_with fail
  refine(qa3 H0.out.lk HF.out (by have:=HL.out;omega) 8).mono ?_;rintro e w1 h';obtain⟨rfl,vt1,h''⟩:=H0.out.acts h' (qdb _ 8);have H1:=am h'';clear h' h'';go_wp2;go_end0;exact H1.out.fin
 by_cases q0':st=0
 ·skip
  ·skip;have hp:x.status st=x.fail 9:=by unfold Sig.Link.status;rw[if_neg h1,if_neg q3',if_pos (Or.inl q0')]
   rw[hp];have e1:=b_f x.s 1 (by omega);have q3:=b_f st 3 (by omega);have q0:=b_t st 0 (by omega);have q1:=b_f st 1 (by omega);have q2:=b_f st 2 (by omega);skip;clear hp
   try clear h1
   try clear q3'
   try clear q0'
   try clear g4
   try clear q4'
   try clear q5'
   try clear h4
   try clear q1'
   try clear q2'
   try clear hwhy
   try clear h9
   go_enter Tryz.func103,Tryz.ntmps103
   go_wp2_with fail
   refine(qa3 H0.out.lk HF.out (by have:=HL.out;omega) 9).mono ?_;rintro e w1 h';obtain⟨rfl,vt1,h''⟩:=H0.out.acts h' (qdb _ 9);have H1:=am h'';clear h' h'';go_wp2;go_end0;exact H1.out.fin
 ·skip;by_cases h9:4≤x.s∧(st=1∨st=2)
  ·skip;by_cases q1':st=1
   ·skip
    ·skip;have hp:x.status st=x.fail 9:=by unfold Sig.Link.status;rw[if_neg h1,if_neg q3',if_pos (Or.inr h9)]
     rw[hp];have e1:=b_f x.s 1 (by omega);have q3:=b_f st 3 (by omega);have ge4:decide ((x.s:Int)≥4)=true:=decide_eq_true (by omega);have q0:=b_f st 0 (by omega);have q1:=b_t st 1 (by omega);have q2:=b_f st 2 (by omega);clear hp
     try clear h1
     try clear q3'
     try clear q0'
     try clear g4
     try clear q4'
     try clear q5'
     try clear h4
     try clear q1'
     try clear q2'
     try clear hwhy
     try clear h9
     go_enter Tryz.func103,Tryz.ntmps103
     go_wp2_with fail
     refine(qa3 H0.out.lk HF.out (by have:=HL.out;omega) 9).mono ?_;rintro e w1 h';obtain⟨rfl,vt1,h''⟩:=H0.out.acts h' (qdb _ 9);have H1:=am h'';clear h' h'';go_wp2;go_end0;exact H1.out.fin
   ·skip
    ·skip;have hp:x.status st=x.fail 9:=by unfold Sig.Link.status;rw[if_neg h1,if_neg q3',if_pos (Or.inr h9)]
     rw[hp];have e1:=b_f x.s 1 (by omega);have q3:=b_f st 3 (by omega);have ge4:decide ((x.s:Int)≥4)=true:=decide_eq_true (by omega);have q0:=b_f st 0 (by omega);have q1:=b_f st 1 (by omega);have q2:=b_t st 2 (by omega);clear hp
     try clear h1
     try clear q3'
     try clear q0'
     try clear g4
     try clear q4'
     try clear q5'
     try clear h4
     try clear q1'
     try clear q2'
     try clear hwhy
     try clear h9
     go_enter Tryz.func103,Tryz.ntmps103
     go_wp2_with fail
     refine(qa3 H0.out.lk HF.out (by have:=HL.out;omega) 9).mono ?_;rintro e w1 h';obtain⟨rfl,vt1,h''⟩:=H0.out.acts h' (qdb _ 9);have H1:=am h'';clear h' h'';go_wp2;go_end0;exact H1.out.fin
  ·skip;by_cases g4:4≤x.s
   ·skip;by_cases q4':st=4
    ·skip
     ·skip;have hp:x.status st=x.remote true:=by unfold Sig.Link.status;rw[if_neg h1,if_neg q3',if_neg (by omega),if_pos q4']
      rw[hp];have e1:=b_f x.s 1 (by omega);have q3:=b_f st 3 (by omega);have q0:=b_f st 0 (by omega);have q4:=b_t st 4 (by omega);have q1:=b_f st 1 (by omega);have q2:=b_f st 2 (by omega);have ge4:decide ((x.s:Int)≥4)=true:=decide_eq_true (by omega);clear hp
      try clear h1
      try clear q3'
      try clear q0'
      try clear g4
      try clear q4'
      try clear q5'
      try clear h4
      try clear q1'
      try clear q2'
      try clear hwhy
      try clear h9
      go_enter Tryz.func103,Tryz.ntmps103
      go_wp2_with fail
      refine(qdk H0.out.lk H0.out.way HL.out true).mono ?_;rintro e w1 h';obtain⟨rfl,vt1,h''⟩:=H0.out.facts h';have H1:=am h'';clear h' h'';go_wp2;go_end0;exact H1.out.fin
    ·skip;by_cases q5':st=5
     ·skip;by_cases h4:x.s=4
      ·skip;have hb0:Nat.blt 0 x.w.hold.sent.length=decide (0<n):=by rw[HN.out,Bool.eq_iff_iff];simp
       obtain⟨⟨y,b⟩,hy⟩:∃p,x.jHeard (decide (0<n))=p:=⟨_,rfl⟩;have hkp:=qlt x (decide (0<n));have hcall:=fun (W:World) (vt:Value) (h:Core W A x vt)=>qkm h (decide (0<n));rw[hy] at hkp;simp only[hy] at hcall;have hu:x.status st=(if b then y.tell ⟨6,0,[]⟩ else y):=by unfold Sig.Link.status;rw[if_neg h1,if_neg q3',if_neg (by omega),if_neg q4',if_pos ⟨q5',h4⟩,hb0,hy]
       have HU:=am hu;have HKP:=am hkp;have HC:=am hcall;clear hy hcall hu hkp hb0;cases b
       ·skip;have hp:=HU.out.trans (if_neg (by first|rfl|trivial|simp));rw[hp];have e1:=b_f x.s 1 (by omega);have q3:=b_f st 3 (by omega);have q0:=b_f st 0 (by omega);have q1:=b_f st 1 (by omega);have q2:=b_f st 2 (by omega);have q4:=b_f st 4 (by omega);have q5:=b_t st 5 (by omega);have e4:=b_t x.s 4 (by omega);have ge4:decide ((x.s:Int)≥4)=true:=decide_eq_true (by omega);clear hp h1 q3' q0' h9 q4' q5' h4 g4;go_enter Tryz.func103,Tryz.ntmps103
        go_wp2_with fail
        have H1:=am H0.out.drew;go_still_tail 11,(by kernel_rfl)
        still_call (qf (qfv H1.out.way))
        still_call (qf (qd6 HH.out.drew HN.out))
        still_step
        refine wpStill_nil ?_;change wpList _ _ _ _ _ w.drew
        go_wp2_with fail
        refine(HC.out _ _ H1.out.lk.core).mono ?_;rintro e w2 ⟨rfl,h',o'⟩;have H2:=am (H1.out.turn h' o' HKP.out.2.1 HKP.out.1);clear h' o';clear s0 s14 s15 s16 s17 s18 s19 s20 s21 s22 s23 s24 z0 z18 z19 z20 z21 z22 z23 z24;have hfs:=H2.out.lk.core;obtain⟨s0,s14,s15,s16,s17,s18,s19,s20,s21,s22,s23,s24,z0,z18,z19,z20,z21,z22,z23,z24⟩:=hfs.fs;clear hfs
        go_wp2_with fail
        go_end0;exact H2.out.fin
       ·skip;have hp:=HU.out.trans (if_pos (by first|rfl|trivial|simp));rw[hp];have e1:=b_f x.s 1 (by omega);have q3:=b_f st 3 (by omega);have q0:=b_f st 0 (by omega);have q1:=b_f st 1 (by omega);have q2:=b_f st 2 (by omega);have q4:=b_f st 4 (by omega);have q5:=b_t st 5 (by omega);have e4:=b_t x.s 4 (by omega);have ge4:decide ((x.s:Int)≥4)=true:=decide_eq_true (by omega);clear hp h1 q3' q0' h9 q4' q5' h4 g4;go_enter Tryz.func103,Tryz.ntmps103
        go_wp2_with fail
        have H1:=am H0.out.drew;go_still_tail 11,(by kernel_rfl)
        still_call (qf (qfv H1.out.way))
        still_call (qf (qd6 HH.out.drew HN.out))
        still_step
        refine wpStill_nil ?_;change wpList _ _ _ _ _ w.drew
        go_wp2_with fail
        refine(HC.out _ _ H1.out.lk.core).mono ?_;rintro e w2 ⟨rfl,h',o'⟩;have H2:=am (H1.out.turn h' o' HKP.out.2.1 HKP.out.1);clear h' o';clear s0 s14 s15 s16 s17 s18 s19 s20 s21 s22 s23 s24 z0 z18 z19 z20 z21 z22 z23 z24;have hfs:=H2.out.lk.core;obtain⟨s0,s14,s15,s16,s17,s18,s19,s20,s21,s22,s23,s24,z0,z18,z19,z20,z21,z22,z23,z24⟩:=hfs.fs;clear hfs
        go_wp2_with fail
        refine(qa5 H2.out.lk (by rw[HKP.out.2.1];have:=HL.out;omega) ⟨6,0,[]⟩ _ (qa9 _ _)).mono ?_;rintro e w3 h';obtain⟨rfl,vt3,h''⟩:=H2.out.acts h' rfl;have H3:=am h'';clear h' h'';go_wp2;go_end0;exact H3.out.fin
      ·skip
       ·skip;have hp:x.status st=x:=by unfold Sig.Link.status;rw[if_neg h1,if_neg q3',if_neg (by omega),if_neg q4',if_neg (by omega)]
        rw[hp];have e1:=b_f x.s 1 (by omega);have q3:=b_f st 3 (by omega);have q0:=b_f st 0 (by omega);have q4:=b_f st 4 (by omega);have ge4:decide ((x.s:Int)≥4)=true:=decide_eq_true (by omega);have q1:=b_f st 1 (by omega);have q2:=b_f st 2 (by omega);have q5:=b_t st 5 (by omega);have e4:=b_f x.s 4 (by omega);clear hp
        try clear h1
        try clear q3'
        try clear q0'
        try clear g4
        try clear q4'
        try clear q5'
        try clear h4
        try clear q1'
        try clear q2'
        try clear hwhy
        try clear h9
        go_enter Tryz.func103,Tryz.ntmps103
        go_wp2_with fail
        go_end0;exact H0.out.fin
     ·skip
      ·skip;have hp:x.status st=x:=by unfold Sig.Link.status;rw[if_neg h1,if_neg q3',if_neg (by omega),if_neg q4',if_neg (by omega)]
       rw[hp];have e1:=b_f x.s 1 (by omega);have q3:=b_f st 3 (by omega);have q0:=b_f st 0 (by omega);have q4:=b_f st 4 (by omega);have ge4:decide ((x.s:Int)≥4)=true:=decide_eq_true (by omega);have q1:=b_f st 1 (by omega);have q2:=b_f st 2 (by omega);have q5:=b_f st 5 (by omega);clear hp
       try clear h1
       try clear q3'
       try clear q0'
       try clear g4
       try clear q4'
       try clear q5'
       try clear h4
       try clear q1'
       try clear q2'
       try clear hwhy
       try clear h9
       go_enter Tryz.func103,Tryz.ntmps103
       go_wp2_with fail
       go_end0;exact H0.out.fin
   ·skip;by_cases q4':st=4
    ·skip
     ·skip;have hp:x.status st=x.remote true:=by unfold Sig.Link.status;rw[if_neg h1,if_neg q3',if_neg (by omega),if_pos q4']
      rw[hp];have e1:=b_f x.s 1 (by omega);have q3:=b_f st 3 (by omega);have q0:=b_f st 0 (by omega);have q4:=b_t st 4 (by omega);have q1:=b_f st 1 (by omega);have q2:=b_f st 2 (by omega);have ge4:decide ((x.s:Int)≥4)=false:=decide_eq_false (by omega);clear hp
      try clear h1
      try clear q3'
      try clear q0'
      try clear g4
      try clear q4'
      try clear q5'
      try clear h4
      try clear q1'
      try clear q2'
      try clear hwhy
      try clear h9
      go_enter Tryz.func103,Tryz.ntmps103
      go_wp2_with fail
      refine(qdk H0.out.lk H0.out.way HL.out true).mono ?_;rintro e w1 h';obtain⟨rfl,vt1,h''⟩:=H0.out.facts h';have H1:=am h'';clear h' h'';go_wp2;go_end0;exact H1.out.fin
    ·skip;by_cases q5':st=5
     ·skip
      ·skip;have hp:x.status st=x:=by unfold Sig.Link.status;rw[if_neg h1,if_neg q3',if_neg (by omega),if_neg q4',if_neg (by omega)]
       rw[hp];have e1:=b_f x.s 1 (by omega);have q3:=b_f st 3 (by omega);have q0:=b_f st 0 (by omega);have q4:=b_f st 4 (by omega);have ge4:decide ((x.s:Int)≥4)=false:=decide_eq_false (by omega);have q5:=b_t st 5 (by omega);have q1:=b_f st 1 (by omega);have q2:=b_f st 2 (by omega);have e4:=b_f x.s 4 (by omega);clear hp
       try clear h1
       try clear q3'
       try clear q0'
       try clear g4
       try clear q4'
       try clear q5'
       try clear h4
       try clear q1'
       try clear q2'
       try clear hwhy
       try clear h9
       go_enter Tryz.func103,Tryz.ntmps103
       go_wp2_with fail
       go_end0;exact H0.out.fin
     ·skip
      ·skip;have hp:x.status st=x:=by unfold Sig.Link.status;rw[if_neg h1,if_neg q3',if_neg (by omega),if_neg q4',if_neg (by omega)]
       rw[hp];have e1:=b_f x.s 1 (by omega);have q3:=b_f st 3 (by omega);have q0:=b_f st 0 (by omega);have q4:=b_f st 4 (by omega);have ge4:decide ((x.s:Int)≥4)=false:=decide_eq_false (by omega);have q5:=b_f st 5 (by omega);have e4:=b_f x.s 4 (by omega);clear hp
       try clear h1
       try clear q3'
       try clear q0'
       try clear g4
       try clear q4'
       try clear q5'
       try clear h4
       try clear q1'
       try clear q2'
       try clear hwhy
       try clear h9
       go_enter Tryz.func103,Tryz.ntmps103
       go_wp2_with fail
       go_end0;exact H0.out.fin
theorem ql5 {A:Adr} {O:Nat→Prop} {x:Sig.Link} {vt:Value} {w:World} (h:Lk w A O x vt) (hw:WayAt w A O x.w) :
  Calls Tryz.prog 60 #[.pointer (some ⟨A.s,0,none⟩)] w (qe0 A O w (x.begin_) (.tuple #[])):=by
 have hp:x.begin_=(up (upW x x.w.reset) 1 ⟨x.o.own,false,false⟩ ⟨0,0⟩ x.fails).aBegin:=by unfold Sig.Link.begin_ up upW;rfl
 rw[hp];clear hp;have hm:=qvk A;have hc:=qug A;have H0:=am (FAt.refl h hw);obtain⟨s0,s14,s15,s16,s17,s18,s19,s20,s21,s22,s23,s24,z0,z18,z19,z20,z21,z22,z23,z24⟩:=h.core.fs;clear h hw ;unfold qcu ptr at s17;go_enter Tryz.func60,Tryz.ntmps60
 go_wp2_with fail
 refine(qu4 H0.out.way).mono ?_;rintro e w1 ⟨rfl,hy,ho⟩;have H1:=am (H0.out.wacts hy ho);clear hy ho;clear s0 s14 s15 s16 s17 s18 s19 s20 s21 s22 s23 s24 z0 z18 z19 z20 z21 z22 z23 z24;have hfs:=H1.out.lk.core;obtain⟨s0,s14,s15,s16,s17,s18,s19,s20,s21,s22,s23,s24,z0,z18,z19,z20,z21,z22,z23,z24⟩:=hfs.fs;clear hfs;replace s18:w1.cell? ⟨A.s,18,none⟩=some (.bool x.o.own):=s18
 go_wp2_with fail
 have c':=H1.out.lk.core.up0 1 (u:=(.int .u8 1)) rfl;have c':=c'.up1 7 (.int .i64 0) ⟨x.o.own,x.o.their,x.o.wait⟩ ⟨0,x.leak.seen⟩ vt x.fails rfl;have c':=c'.up1 8 (.int .i64 0) ⟨x.o.own,x.o.their,x.o.wait⟩ ⟨0,0⟩ vt x.fails rfl;have c':=c'.up1 4 (.bool x.o.own) ⟨x.o.own,x.o.their,x.o.wait⟩ ⟨0,0⟩ vt x.fails rfl;have c':=c'.up1 5 (.bool false) ⟨x.o.own,false,x.o.wait⟩ ⟨0,0⟩ vt x.fails rfl;have c':=c'.up1 6 (.bool false) ⟨x.o.own,false,false⟩ ⟨0,0⟩ vt x.fails rfl;have o':=(((((((Only.refl (Own A) w1).trans (qaz 0 (.int .u8 1))).trans (qaz 21 (.int .i64 0))).trans (qaz 22 (.int .i64 0))).trans (qaz 18 (.bool x.o.own))).trans (qaz 19 (.bool false))).trans (qaz 20 (.bool false)));generalize ((((((w1.setCell ⟨A.s,0,none⟩ (.int .u8 1)).setCell ⟨A.s,21,none⟩ (.int .i64 0)).setCell ⟨A.s,22,none⟩ (.int .i64 0)).setCell ⟨A.s,18,none⟩ (.bool x.o.own)).setCell ⟨A.s,19,none⟩ (.bool false)).setCell ⟨A.s,20,none⟩ (.bool false))=w2 at c' o' ⊢;have H2:qac (FAt A O w (up (upW x x.w.reset) 1 ⟨x.o.own,false,false⟩ ⟨0,0⟩ x.fails) w2 vt):=⟨H1.out.turn c' o' rfl rfl⟩;have OW2:=am o';clear c' o';clear s0 s14 s15 s16 s17 s18 s19 s20 s21 s22 s23 s24 z0 z18 z19 z20 z21 z22 z23 z24;have hfs:=H2.out.lk.core;obtain⟨s0,s14,s15,s16,s17,s18,s19,s20,s21,s22,s23,s24,z0,z18,z19,z20,z21,z22,z23,z24⟩:=hfs.fs;clear hfs
 go_wp2_with fail
 refine(qk1 H2.out.lk.core).mono ?_;rintro e w3 ⟨rfl,h',o'⟩;have H3:=am (H2.out.turn h' o' rfl rfl);clear h' o';go_wp2;go_end0;exact H3.out.fin
end Go.Proofs.YtjbijdmcceloaaaGreat.Top
