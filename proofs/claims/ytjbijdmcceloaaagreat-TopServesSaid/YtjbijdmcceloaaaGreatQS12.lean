/- Part of the proof of topServes_holds. No condition. -/
import Derived.Test.YtjbijdmcceloaaaGreatQS11
set_option linter.unusedVariables false
set_option linter.unusedSimpArgs false
set_option maxHeartbeats 80000000
set_option maxRecDepth 100000
namespace Go.Proofs.YtjbijdmcceloaaaGreat.Top
open Go Go.RowKit Go.Proofs.YtjbijdmcceloaaaGreat Go.Proofs.YtjbijdmcceloaaaGreatW.PrintWords Go.Proofs.YtjbijdmcceloaaaGreatW.PrintLast Go.Proofs.YtjbijdmcceloaaaGreatW.PrintMore
def o1 (x:Sig.Link):Sig.Link:=if x.s=2∨x.s=3 then x.serve else x
def o2 (x:Sig.Link):Sig.Link:=if x.o.their then x.remote false else x
def o3 (x:Sig.Link) (k:Nat):Sig.Link:=if 0<k∧x.s=4 then x.wait true else x
def o4 (x:Sig.Link) (k:Nat):Sig.Link:=if x.j.their∧(0<k∨x.w.hold.sent.length=0) then x.jAnswer.1.tell ⟨7,0,[]⟩ else x
def o6 (x:Sig.Link) (r:Option (Option (List Nat))):Sig.Link:=match r with
 |none=>x.fail 4
 |some none=>x
 |some (some p)=>x.tell ⟨3,0,p⟩
def o5 (x:Sig.Link) (u:Sig.Unit):Sig.Link:=if x.o.own∨x.j.own then x else o6 (upW x (x.w.take u).1) (x.w.take u).2
def oA (x:Sig.Link) (u:Sig.Unit) (r:Option Nat):Sig.Link:=match r with
 |none=>x.fail 4
 |some k=>o5 (o4 (o3 x k) k) u
theorem qc6 (x:Sig.Link) (u:Sig.Unit):x.ordinary u=oA (upW (o2 (o1 x)) ((o2 (o1 x)).w.answer u).1) u ((o2 (o1 x)).w.answer u).2:=by
 unfold Sig.Link.ordinary;simp only;rw[show (if x.s=2∨x.s=3 then x.serve else x)=o1 x from rfl,show (if (o1 x).o.their then (o1 x).remote false else o1 x)=o2 (o1 x) from rfl];unfold oA upW;rcases (o2 (o1 x)).w.answer u with ⟨a,r⟩
 cases r with
 |none=>rfl
 |some k =>
  simp only;unfold o5 o4 o3 o6 upW;rfl
theorem qf4 (x:Sig.Link) (b:Bool):(x.wait b).told=x.told∧(x.wait b).fails=x.fails∧(x.wait b).w=x.w:=by
 unfold Sig.Link.wait;split
 ·exact⟨rfl,rfl,rfl⟩
 split
 ·exact⟨rfl,rfl,rfl⟩
 ·exact⟨rfl,rfl,rfl⟩
theorem qb0 (x:Sig.Link):x.resume.told=x.told∧x.resume.fails=x.fails∧x.resume.w=x.w:=by
 unfold Sig.Link.resume;split
 ·exact⟨rfl,rfl,rfl⟩
 ·exact qf4 { x with s:=4 } false
theorem qln (x:Sig.Link):(o1 x).told.length≤x.told.length+1∧(o1 x).fails=x.fails∧(o1 x).w=x.w:=by
 unfold o1;split
 ·exact⟨by rw[qe6];exact Nat.le_refl _,qgb x,qga x⟩
 ·exact⟨by omega,rfl,rfl⟩
theorem qo8 (y:Sig.Link):(qe7 y false).told.length≤y.told.length+1∧(qe7 y false).fails=y.fails∧(qe7 y false).w=y.w:=by
 unfold qe7;split
 ·exact⟨by show y.told.length≤_;omega,rfl,rfl⟩
 ·rw[if_neg (by decide)];obtain⟨a,b,c⟩:=qb0 (Sig.Link.tell (up y y.s (y.o.remote false).1 y.leak y.fails) ⟨5,0,[]⟩);rw[a,b,c];exact⟨by show (y.told++[_]).length≤_;simp,rfl,rfl⟩
theorem qpj (x:Sig.Link):(o2 x).told.length≤x.told.length+2∧(o2 x).fails=x.fails∧(o2 x).w=x.w:=by
 unfold o2;split
 ·rw[qge];obtain⟨a,b,c⟩:=qln x;obtain⟨d,e,f⟩:=qo8 (o1 x);exact⟨by show (qe7 (o1 x) false).told.length≤_;omega,e.trans b,f.trans c⟩
 ·exact⟨by omega,rfl,rfl⟩
theorem qpi (x:Sig.Link) (k:Nat):(o3 x k).told=x.told∧(o3 x k).fails=x.fails∧(o3 x k).w=x.w:=by
 unfold o3;split
 ·exact qf4 x true
 ·exact⟨rfl,rfl,rfl⟩
theorem qdo (x:Sig.Link):x.jAnswer.1.told=x.told∧x.jAnswer.1.fails=x.fails∧x.jAnswer.1.w=x.w:=by
 unfold Sig.Link.jAnswer;split
 ·exact⟨rfl,rfl,rfl⟩
 ·exact⟨rfl,rfl,rfl⟩
theorem qph (x:Sig.Link) (k:Nat):(o4 x k).told.length≤x.told.length+1∧(o4 x k).fails=x.fails∧(o4 x k).w=x.w:=by
 obtain⟨a,b,c⟩:=qdo x;unfold o4;split
 ·exact⟨by show (x.jAnswer.1.told++[_]).length≤_;rw[a];simp,b,c⟩
 ·exact⟨by omega,rfl,rfl⟩
theorem wrf_not {A:Adr} {O:Nat→Prop} {x:Sig.Link} {vt:Value} {w:World} (h:FAt A O w x w vt) {k t:Nat} (ht:Typed w k t) (hn:t≠54∧t≠152∧t≠62∧t≠177∧t≠184∧t≠205∧t≠203∧t≠148∧t≠23):¬WrF A O w k:=by
 have hg:∀k,qbe O w w k→O k:=fun k hk=>by
  rcases hk with hk|hk
  ·exact hk
  ·omega
 rintro(hk|hk)
 ·exact qby h.lk ht (by omega) (hk.imp id fun ⟨a,b⟩=>⟨Or.inl a,b⟩)
 ·exact qf1 h.way ht (by omega) (hk.imp id fun hk=>hk.imp id fun ⟨a,b⟩=>⟨Or.inl a,b⟩)
theorem FAt.blk {A:Adr} {O:Nat→Prop} {x x':Sig.Link} {vt vt':Value} {w w2:World} (h0:FAt A O w x w vt) (h:FAt A O w x' w2 vt') {g t:Nat} {cs:List Value} (hb:Blk w g t cs) (hn:t≠54∧t≠152∧t≠62∧t≠177∧t≠184∧t≠205∧t≠203∧t≠148∧t≠23):Blk w2 g t cs :=
 hb.only h.only (wrf_not h0 hb.typed hn)
theorem FAt.oct {A:Adr} {O:Nat→Prop} {x x':Sig.Link} {vt vt':Value} {w w2:World} (h0:FAt A O w x w vt) (h:FAt A O w x' w2 vt') {v:Value} {l:List Nat} (ho:Oct w v l):Oct w2 v l :=
 ho.only h.only (fun k hk ht=>wrf_not h0 ht (by decide) hk)
def tkV (r:Option (Option (List Nat))) (v:Value):Value:=match r with
 |some (some _)=>v
 |_=>.slice none 0 0
def tkB (r:Option (Option (List Nat))):Bool:=match r with
 |some (some _)=>true
 |_=>false
def tkE (r:Option (Option (List Nat))):Nat:=match r with
 |none=>10
 |_=>0
theorem qq3 (r:Option (Option (List Nat))) (v:Value):qm8 r v=.tuple #[tkV r v,.bool (tkB r),.int .i64 (tkE r:Nat)]:=by
 rcases r with _|(_|p) <;> rfl
theorem qhg {A:Adr} {O:Nat→Prop} {x:Sig.Link} {vt:Value} {w:World} (h:Lk w A O x vt) (hw:WayAt w A O x.w) (ok:WOk x.w) (hf:x.fails<1000000) (hl:x.told.length≤800000) (u:Sig.Unit) (Au:Option Addr) (cu:Nat) (hu:u.bsn<256) (hoct:Oct w (.slice Au u.info.length cu) u.info) (hlen:u.kind=2→0<u.info.length) (hmax:u.info.length≤1000000) :
  Calls Tryz.prog 104 #[.pointer (some ⟨A.s,0,none⟩),qax u (.slice Au u.info.length cu)] w (qe0 A O w (x.ordinary u) (.tuple #[])):=by
 have H0:=am (FAt.refl h hw);have OK:=am ok;have HF:=am hf;have HL:=am hl;have HU:=am hu;have HLEN:=am hlen;have HMAX:=am hmax;obtain⟨s0,s14,s15,s16,s17,s18,s19,s20,s21,s22,s23,s24,z0,z18,z19,z20,z21,z22,z23,z24⟩:=h.core.fs;clear h hw ok hf hl hu hlen hmax;have hmA:=qtn A;have hcA:=qr7 A;have hmH:=qnn A;have hcH:=qhw A;have hmT:=qw4 A;have hcT:=qv9 A;rw[qc6];unfold qax;obtain⟨y1,h1⟩:∃y,o1 x=y:=⟨_,rfl⟩;rw[h1];obtain⟨y2,h2⟩:∃y,o2 y1=y:=⟨_,rfl⟩;rw[h2];obtain⟨⟨ww,r⟩,hr⟩:∃p,y2.w.answer u=p:=⟨_,rfl⟩;rw[hr];obtain⟨y3,h3⟩:∃y,upW y2 ww=y:=⟨_,rfl⟩;obtain⟨z,hz⟩:∃z,oA y3 u r=z:=⟨_,rfl⟩;rw[show oA (upW y2 (ww,r).1) u (ww,r).2=z from by rw[←hz,←h3]];have kp:(y1.told.length≤x.told.length+1∧y1.fails=x.fails∧y1.w=x.w)∧y2.told.length≤x.told.length+3∧y2.fails=x.fails∧y2.w=x.w:=by have a:=qln x;have b:=qpj y1;rw[h1] at a;rw[h2] at b;exact⟨a,by omega,b.2.1.trans a.2.1,b.2.2.trans a.2.2⟩
 have ko:WOk y2.w∧WOk ww:=by have e:=kp.2.2.2;have o:=OK.out;rw[←e] at o;refine⟨o,?_⟩;have:=o.answer u;rw[hr] at this;exact this
 have k3:y3.told.length≤x.told.length+3∧y3.fails=x.fails∧y3.w=ww:=by rw[←h3];exact⟨kp.2.1,kp.2.2.1,rfl⟩
 have B3:=am k3;have E3:=am h3;clear k3 h3;have E1:=am h1;have E2:=am h2;have ER:=am hr;have EZ:=am hz;have KP:=am kp;have KO:=am ko;clear h1 h2 hr hz kp ko;clear s0 s14 s15 s16 s17 s18 s19 s20 s21 s22 s23 s24 z0 z18 z19 z20 z21 z22 z23 z24;go_enter Tryz.func104,Tryz.ntmps104;refine sq fun K0 J0=>?_
 go_wp2_with fail
 refine J0.out _ _ ?_;clear J0;have BX:qac (Blk (w.alloc (.cells (qbg u (.slice Au u.info.length cu)).toArray 167)) w.heap.size 167 (qbg u (.slice Au u.info.length cu))):=⟨heap_alloc_new w _⟩;have hb:Below w.heap.size w (w.alloc (.cells (qbg u (.slice Au u.info.length cu)).toArray 167)):=qaa (Below.refl _ _) _;have HB:=am (H0.out.below hb);have OC:=am (hoct.only (Only.below (P:=fun _=>False) hb) (fun _ h _=>h));clear hoct hb;generalize hW:w.alloc (.cells (qbg u (.slice Au u.info.length cu)).toArray 167)=W at *;have hW':w.alloc (.cells #[.int .u8 u.bsn,.int .u8 u.fsn,.bool u.bib,.bool u.fib,.int .u8 u.kind,.int .u8 u.status,.bool u.wide,.slice Au u.info.length cu] 167)=W:=hW;rw[hW'];clear hW hW';have H1:=am (FAt.refl HB.out.lk HB.out.way);obtain⟨B,hB⟩:∃B,w.heap.size=B:=⟨_,rfl⟩;rw[hB] at BX ⊢;clear hB;refine wp_seq_k (fun K2 k2=>?_);have J2:qac (∀(u1_ u2_ u4_ u5_ u6_ u7_ u8_ u9_ u10_ u11_ u12_ u13_ u14_ u15_ u16_ u17_ u18_ u19_ u20_ u21_ u22_ u23_ u24_ u25_ u26_ u27_ u28_ u29_ u30_ u31_ u32_ u33_ u34_ u35_ u36_ u37_ u38_ u39_ u40_ u41_ u42_ u43_ u44_ u45_ u46_ u47_ u48_ u49_ u50_ u51_ u52_ u53_ u54_ u55_ u56_ u57_ u58_ u59_ u60_ u61_ u62_ u63_ u64_ u65_ u66_ u67_ u68_ u69_ u70_ u71_ u72_ u73_ u74_ u75_ u76_ u77_ u78_ u79_ u80_ u81_ u82_ u83_ u84_ u85_ u86_ u87_ u88_ u89_ u90_ u91_ u92_ u93_ u94_ u95_ u96_ u97_ u98_ u99_ u100_ u101_ u102_ u103_ u104_ u105_ u106_ u107_ u108_ u109_ u110_ u111_ u112_ u113_ u114_ u115_:Value) (w':World) (vt':Value),FAt A (qbe O w W) W y1 w' vt'→K2 ⟨#[.pointer (some ⟨A.s,0,none⟩),u1_,u2_,.pointer (some ⟨B,0,none⟩),u4_,u5_,u6_,u7_,u8_,u9_,u10_,u11_,u12_,u13_,u14_,u15_,u16_,u17_,u18_,u19_,u20_,u21_,u22_,u23_,u24_,u25_,u26_,u27_,u28_,u29_,u30_,u31_,u32_,u33_,u34_,u35_,u36_,u37_,u38_,u39_,u40_,u41_,u42_,u43_,u44_,u45_,u46_,u47_,u48_,u49_,u50_,u51_,u52_,u53_,u54_,u55_,u56_,u57_,u58_,u59_,u60_,u61_,u62_,u63_,u64_,u65_,u66_,u67_,u68_,u69_,u70_,u71_,u72_,u73_,u74_,u75_,u76_,u77_,u78_,u79_,u80_,u81_,u82_,u83_,u84_,u85_,u86_,u87_,u88_,u89_,u90_,u91_,u92_,u93_,u94_,u95_,u96_,u97_,u98_,u99_,u100_,u101_,u102_,u103_,u104_,u105_,u106_,u107_,u108_,u109_,u110_,u111_,u112_,u113_,u114_,u115_],[]⟩ w'):=by
  refine⟨fun u1_ u2_ u4_ u5_ u6_ u7_ u8_ u9_ u10_ u11_ u12_ u13_ u14_ u15_ u16_ u17_ u18_ u19_ u20_ u21_ u22_ u23_ u24_ u25_ u26_ u27_ u28_ u29_ u30_ u31_ u32_ u33_ u34_ u35_ u36_ u37_ u38_ u39_ u40_ u41_ u42_ u43_ u44_ u45_ u46_ u47_ u48_ u49_ u50_ u51_ u52_ u53_ u54_ u55_ u56_ u57_ u58_ u59_ u60_ u61_ u62_ u63_ u64_ u65_ u66_ u67_ u68_ u69_ u70_ u71_ u72_ u73_ u74_ u75_ u76_ u77_ u78_ u79_ u80_ u81_ u82_ u83_ u84_ u85_ u86_ u87_ u88_ u89_ u90_ u91_ u92_ u93_ u94_ u95_ u96_ u97_ u98_ u99_ u100_ u101_ u102_ u103_ u104_ u105_ u106_ u107_ u108_ u109_ u110_ u111_ u112_ u113_ u114_ u115_ w2 vt2 hj=>k2 _ _ ?_⟩;clear k2;have H2:=am hj;clear hj;refine wp_seq_k (fun K3 k3=>?_);have J3:qac (∀(u1_ u2_ u4_ u5_ u6_ u7_ u8_ u9_ u10_ u11_ u12_ u13_ u14_ u15_ u16_ u17_ u18_ u19_ u20_ u21_ u22_ u23_ u24_ u25_ u26_ u27_ u28_ u29_ u30_ u31_ u32_ u33_ u34_ u35_ u36_ u37_ u38_ u39_ u40_ u41_ u42_ u43_ u44_ u45_ u46_ u47_ u48_ u49_ u50_ u51_ u52_ u53_ u54_ u55_ u56_ u57_ u58_ u59_ u60_ u61_ u62_ u63_ u64_ u65_ u66_ u67_ u68_ u69_ u70_ u71_ u72_ u73_ u74_ u75_ u76_ u77_ u78_ u79_ u80_ u81_ u82_ u83_ u84_ u85_ u86_ u87_ u88_ u89_ u90_ u91_ u92_ u93_ u94_ u95_ u96_ u97_ u98_ u99_ u100_ u101_ u102_ u103_ u104_ u105_ u106_ u107_ u108_ u109_ u110_ u111_ u112_ u113_ u114_ u115_:Value) (w':World) (vt':Value),FAt A (qbe O w W) W y2 w' vt'→K3 ⟨#[.pointer (some ⟨A.s,0,none⟩),u1_,u2_,.pointer (some ⟨B,0,none⟩),u4_,u5_,u6_,u7_,u8_,u9_,u10_,u11_,u12_,u13_,u14_,u15_,u16_,u17_,u18_,u19_,u20_,u21_,u22_,u23_,u24_,u25_,u26_,u27_,u28_,u29_,u30_,u31_,u32_,u33_,u34_,u35_,u36_,u37_,u38_,u39_,u40_,u41_,u42_,u43_,u44_,u45_,u46_,u47_,u48_,u49_,u50_,u51_,u52_,u53_,u54_,u55_,u56_,u57_,u58_,u59_,u60_,u61_,u62_,u63_,u64_,u65_,u66_,u67_,u68_,u69_,u70_,u71_,u72_,u73_,u74_,u75_,u76_,u77_,u78_,u79_,u80_,u81_,u82_,u83_,u84_,u85_,u86_,u87_,u88_,u89_,u90_,u91_,u92_,u93_,u94_,u95_,u96_,u97_,u98_,u99_,u100_,u101_,u102_,u103_,u104_,u105_,u106_,u107_,u108_,u109_,u110_,u111_,u112_,u113_,u114_,u115_],[]⟩ w'):=by
   refine⟨fun u1_ u2_ u4_ u5_ u6_ u7_ u8_ u9_ u10_ u11_ u12_ u13_ u14_ u15_ u16_ u17_ u18_ u19_ u20_ u21_ u22_ u23_ u24_ u25_ u26_ u27_ u28_ u29_ u30_ u31_ u32_ u33_ u34_ u35_ u36_ u37_ u38_ u39_ u40_ u41_ u42_ u43_ u44_ u45_ u46_ u47_ u48_ u49_ u50_ u51_ u52_ u53_ u54_ u55_ u56_ u57_ u58_ u59_ u60_ u61_ u62_ u63_ u64_ u65_ u66_ u67_ u68_ u69_ u70_ u71_ u72_ u73_ u74_ u75_ u76_ u77_ u78_ u79_ u80_ u81_ u82_ u83_ u84_ u85_ u86_ u87_ u88_ u89_ u90_ u91_ u92_ u93_ u94_ u95_ u96_ u97_ u98_ u99_ u100_ u101_ u102_ u103_ u104_ u105_ u106_ u107_ u108_ u109_ u110_ u111_ u112_ u113_ u114_ u115_ w3 vt3 hj=>k3 _ _ ?_⟩;clear k3;have H3:=am hj;clear hj;refine sq fun K5 J5=>?_;have hfs:=H3.out.lk.core;obtain⟨s0,s14,s15,s16,s17,s18,s19,s20,s21,s22,s23,s24,z0,z18,z19,z20,z21,z22,z23,z24⟩:=hfs.fs;clear hfs;unfold qcu ptr at s17;have bb:=H1.out.blk H3.out BX.out (by decide);have b0:=bb.c 0 rfl;have b1:=bb.c 1 rfl;have b2:=bb.c 2 rfl;have b3:=bb.c 3 rfl;have b4:=bb.c 4 rfl;have b5:=bb.c 5 rfl;have b6:=bb.c 6 rfl;have b7:=bb.c 7 rfl;clear bb;have H4:=am H3.out.drew;obtain⟨ka,kb,hab⟩:∃ka kb:Nat,qun r=.tuple #[.int .i64 ka,.int .i64 kb]:=by cases r <;> exact⟨_,_,rfl⟩
   have hcall:=qs3 H4.out.way KO.out.1 u Au cu HU.out;rw[ER.out,show qun (ww,r).2=_ from hab] at hcall;have HCA:=am hcall;have HAB:=am hab;clear hcall hab;refine sr 11 (fun W=>W.cell? ⟨A.s,17,none⟩=some (.iface A.ty (.pointer (some ⟨A.w,0,none⟩)))∧W.cell? ⟨B,0,none⟩=some (.int .u8 u.bsn)∧W.cell? ⟨B,1,none⟩=some (.int .u8 u.fsn)∧W.cell? ⟨B,2,none⟩=some (.bool u.bib)∧W.cell? ⟨B,3,none⟩=some (.bool u.fib)∧W.cell? ⟨B,4,none⟩=some (.int .u8 u.kind)∧W.cell? ⟨B,5,none⟩=some (.int .u8 u.status)∧W.cell? ⟨B,6,none⟩=some (.bool u.wide)∧W.cell? ⟨B,7,none⟩=some (.slice Au u.info.length cu)) [5] (show _∧_∧_∧_∧_∧_∧_∧_∧_ from ⟨s17,b0,b1,b2,b3,b4,b5,b6,b7⟩) (fun hY=>?_);refine pu 0 30 ?_;refine pu 1 31 ?_;refine pu 2 32 ?_;refine tk 3 33 hY ?_;refine tk 4 34 hY ?_;refine la_ 5 35 (fun K hK=>?_);refine qn4 A.fAnswer #[.pointer (some ⟨A.w,0,none⟩),qax u (.slice Au u.info.length cu)] (by rfl) rfl ?_ ?_
   ·go_simp
    try rfl
   with_reducible refine(HCA.out).mono ?_
   rintro e w5 ⟨rfl,hy,ho⟩;refine⟨_,rfl,?_⟩;refine hK.out _ _ ?_;clear hK K;refine nm 35 ?_;refine pu 6 29 ?_;refine pu 7 36 ?_;refine pu 8 37 ?_;refine pu 9 4 ?_;refine pu 10 5 ?_;refine qav (by kernel_rfl) ?_;have hn:=H4.out.wacts hy ho;rw[show upW y2 (ww,r).1=y3 from E3.out] at hn;have H5:=am hn;clear hy ho hn;clear s0 s14 s15 s16 s17 s18 s19 s20 s21 s22 s23 s24 z0 z18 z19 z20 z21 z22 z23 z24 b0 b1 b2 b3 b4 b5 b6 b7;refine J5.out _ _ ?_;clear J5;rcases r with _|k
   ·obtain⟨rfl,rfl⟩:ka=0∧kb=10:=by have:=HAB.out;simp[qun] at this;omega
    have hfs:=H5.out.lk.core;obtain⟨s0,s14,s15,s16,s17,s18,s19,s20,s21,s22,s23,s24,z0,z18,z19,z20,z21,z22,z23,z24⟩:=hfs.fs;clear hfs
    go_wp2_with fail
    refine(qa3 H5.out.lk (by rw[B3.out.2.1];exact HF.out) (by have:=B3.out.1;have:=HL.out;omega) 4).mono ?_;rintro e w6 h';obtain⟨rfl,vt6,h''⟩:=H5.out.acts h' (qdb _ 4);have H6:=am h'';clear h' h'';go_wp2;go_end0;rw[show z=_ from EZ.out.symm];exact HB.out.facts H6.out.fin
   ·obtain⟨rfl,rfl⟩:ka=k∧kb=0:=by have:=HAB.out;simp[qun] at this;omega
    clear HAB HCA;refine sq fun K6 J6=>?_
    go_wp2_with fail
    refine J6.out _ _ ?_;clear J6;obtain⟨y4,h4⟩:∃y,o3 y3 ka=y:=⟨_,rfl⟩;obtain⟨y5,h5⟩:∃y,o4 y4 ka=y:=⟨_,rfl⟩;have k4:=qpi y3 ka;rw[h4] at k4;have k5:=qph y4 ka;rw[h5] at k5;have kk:(y4.told.length≤x.told.length+3∧y4.fails=x.fails∧y4.w=ww)∧y5.told.length≤x.told.length+4∧y5.fails=x.fails∧y5.w=ww:=by have:=B3.out;rw[k4.1,k4.2.1,k4.2.2,k5.2.1,k5.2.2,k4.2.1,k4.2.2];rw[k4.1] at k5;exact⟨this,by omega,this.2⟩
    have hz:o5 y5 u=z:=by rw[←h5,←h4];exact EZ.out
    have E4:=am h4;have E5:=am h5;have KK:=am kk;have EY:=am hz;clear h4 h5 k4 k5 kk hz;refine wp_seq_k (fun K8 k8=>?_);have J8:qac (∀(u1_ u2_ u5_ u6_ u7_ u8_ u9_ u10_ u11_ u12_ u13_ u14_ u15_ u16_ u17_ u18_ u19_ u20_ u21_ u22_ u23_ u24_ u25_ u26_ u27_ u28_ u29_ u30_ u31_ u32_ u33_ u34_ u35_ u36_ u37_ u38_ u39_ u40_ u41_ u42_ u43_ u44_ u45_ u46_ u47_ u48_ u49_ u50_ u51_ u52_ u53_ u54_ u55_ u56_ u57_ u58_ u59_ u60_ u61_ u62_ u63_ u64_ u65_ u66_ u67_ u68_ u69_ u70_ u71_ u72_ u73_ u74_ u75_ u76_ u77_ u78_ u79_ u80_ u81_ u82_ u83_ u84_ u85_ u86_ u87_ u88_ u89_ u90_ u91_ u92_ u93_ u94_ u95_ u96_ u97_ u98_ u99_ u100_ u101_ u102_ u103_ u104_ u105_ u106_ u107_ u108_ u109_ u110_ u111_ u112_ u113_ u114_ u115_:Value) (w':World) (vt':Value),FAt A (qbe O w W) W y4 w' vt'→K8 ⟨#[.pointer (some ⟨A.s,0,none⟩),u1_,u2_,.pointer (some ⟨B,0,none⟩),.int .i64 (ka:Nat),u5_,u6_,u7_,u8_,u9_,u10_,u11_,u12_,u13_,u14_,u15_,u16_,u17_,u18_,u19_,u20_,u21_,u22_,u23_,u24_,u25_,u26_,u27_,u28_,u29_,u30_,u31_,u32_,u33_,u34_,u35_,u36_,u37_,u38_,u39_,u40_,u41_,u42_,u43_,u44_,u45_,u46_,u47_,u48_,u49_,u50_,u51_,u52_,u53_,u54_,u55_,u56_,u57_,u58_,u59_,u60_,u61_,u62_,u63_,u64_,u65_,u66_,u67_,u68_,u69_,u70_,u71_,u72_,u73_,u74_,u75_,u76_,u77_,u78_,u79_,u80_,u81_,u82_,u83_,u84_,u85_,u86_,u87_,u88_,u89_,u90_,u91_,u92_,u93_,u94_,u95_,u96_,u97_,u98_,u99_,u100_,u101_,u102_,u103_,u104_,u105_,u106_,u107_,u108_,u109_,u110_,u111_,u112_,u113_,u114_,u115_],[]⟩ w'):=by
     refine⟨fun u1_ u2_ u5_ u6_ u7_ u8_ u9_ u10_ u11_ u12_ u13_ u14_ u15_ u16_ u17_ u18_ u19_ u20_ u21_ u22_ u23_ u24_ u25_ u26_ u27_ u28_ u29_ u30_ u31_ u32_ u33_ u34_ u35_ u36_ u37_ u38_ u39_ u40_ u41_ u42_ u43_ u44_ u45_ u46_ u47_ u48_ u49_ u50_ u51_ u52_ u53_ u54_ u55_ u56_ u57_ u58_ u59_ u60_ u61_ u62_ u63_ u64_ u65_ u66_ u67_ u68_ u69_ u70_ u71_ u72_ u73_ u74_ u75_ u76_ u77_ u78_ u79_ u80_ u81_ u82_ u83_ u84_ u85_ u86_ u87_ u88_ u89_ u90_ u91_ u92_ u93_ u94_ u95_ u96_ u97_ u98_ u99_ u100_ u101_ u102_ u103_ u104_ u105_ u106_ u107_ u108_ u109_ u110_ u111_ u112_ u113_ u114_ u115_ w8 vt8 hj=>k8 _ _ ?_⟩;clear k8;have H8:=am hj;clear hj;obtain⟨n,hn⟩:∃n,y4.w.hold.sent.length=n:=⟨_,rfl⟩;have HN:=am hn;obtain⟨vs,vn,hh⟩:=H8.out.way.hold;have HH:=am hh;clear hh hn;refine wp_seq_k (fun K10 k10=>?_);have J10:qac (∀(u1_ u2_ u5_ u6_ u7_ u8_ u9_ u10_ u11_ u12_ u13_ u14_ u15_ u16_ u17_ u18_ u19_ u20_ u21_ u22_ u23_ u24_ u25_ u26_ u27_ u28_ u29_ u30_ u31_ u32_ u33_ u34_ u35_ u36_ u37_ u38_ u39_ u40_ u41_ u42_ u43_ u44_ u45_ u46_ u47_ u48_ u49_ u50_ u51_ u52_ u53_ u54_ u55_ u56_ u57_ u58_ u59_ u60_ u61_ u62_ u63_ u64_ u65_ u66_ u67_ u68_ u69_ u70_ u71_ u72_ u73_ u74_ u75_ u76_ u77_ u78_ u79_ u80_ u81_ u82_ u83_ u84_ u85_ u86_ u87_ u88_ u89_ u90_ u91_ u92_ u93_ u94_ u95_ u96_ u97_ u98_ u99_ u100_ u101_ u102_ u103_ u104_ u105_ u106_ u107_ u108_ u109_ u110_ u111_ u112_ u113_ u114_ u115_:Value) (w':World) (vt':Value),FAt A (qbe O w W) W y5 w' vt'→K10 ⟨#[.pointer (some ⟨A.s,0,none⟩),u1_,u2_,.pointer (some ⟨B,0,none⟩),.int .i64 (ka:Nat),u5_,u6_,u7_,u8_,u9_,u10_,u11_,u12_,u13_,u14_,u15_,u16_,u17_,u18_,u19_,u20_,u21_,u22_,u23_,u24_,u25_,u26_,u27_,u28_,u29_,u30_,u31_,u32_,u33_,u34_,u35_,u36_,u37_,u38_,u39_,u40_,u41_,u42_,u43_,u44_,u45_,u46_,u47_,u48_,u49_,u50_,u51_,u52_,u53_,u54_,u55_,u56_,u57_,u58_,u59_,u60_,u61_,u62_,u63_,u64_,u65_,u66_,u67_,u68_,u69_,u70_,u71_,u72_,u73_,u74_,u75_,u76_,u77_,u78_,u79_,u80_,u81_,u82_,u83_,u84_,u85_,u86_,u87_,u88_,u89_,u90_,u91_,u92_,u93_,u94_,u95_,u96_,u97_,u98_,u99_,u100_,u101_,u102_,u103_,u104_,u105_,u106_,u107_,u108_,u109_,u110_,u111_,u112_,u113_,u114_,u115_],[]⟩ w'):=by
      refine⟨fun u1_ u2_ u5_ u6_ u7_ u8_ u9_ u10_ u11_ u12_ u13_ u14_ u15_ u16_ u17_ u18_ u19_ u20_ u21_ u22_ u23_ u24_ u25_ u26_ u27_ u28_ u29_ u30_ u31_ u32_ u33_ u34_ u35_ u36_ u37_ u38_ u39_ u40_ u41_ u42_ u43_ u44_ u45_ u46_ u47_ u48_ u49_ u50_ u51_ u52_ u53_ u54_ u55_ u56_ u57_ u58_ u59_ u60_ u61_ u62_ u63_ u64_ u65_ u66_ u67_ u68_ u69_ u70_ u71_ u72_ u73_ u74_ u75_ u76_ u77_ u78_ u79_ u80_ u81_ u82_ u83_ u84_ u85_ u86_ u87_ u88_ u89_ u90_ u91_ u92_ u93_ u94_ u95_ u96_ u97_ u98_ u99_ u100_ u101_ u102_ u103_ u104_ u105_ u106_ u107_ u108_ u109_ u110_ u111_ u112_ u113_ u114_ u115_ w10 vt10 hj=>k10 _ _ ?_⟩;clear k10;have H10:=am hj;clear hj;refine sq fun K12 J12=>?_;obtain⟨ow,how⟩:∃b,y5.o.own=b:=⟨_,rfl⟩;obtain⟨jo,hjo⟩:∃b,y5.j.own=b:=⟨_,rfl⟩;have OW:=am how;have JO:=am hjo;clear how hjo;cases ow
      ·cases jo
       ·skip;have hfs:=H10.out.lk.core;obtain⟨s0,s14,s15,s16,s17,s18,s19,s20,s21,s22,s23,s24,z0,z18,z19,z20,z21,z22,z23,z24⟩:=hfs.fs;clear hfs;obtain⟨j13,j14,j15,j16,k14,k15,k16⟩:=H10.out.lk.core.fj;rw[OW.out] at s18;rw[JO.out] at j14
        go_wp2_with fail
        clear s0 s14 s15 s16 s17 s18 s19 s20 s21 s22 s23 s24 z0 z18 z19 z20 z21 z22 z23 z24 j13 j14 j15 j16 k14 k15 k16;refine J12.out _ _ ?_;clear J12;obtain⟨⟨wt,rt⟩,ht⟩:∃p,y5.w.take u=p:=⟨_,rfl⟩;obtain⟨y6,h6⟩:∃y,upW y5 wt=y:=⟨_,rfl⟩;have hz:o6 y6 rt=z:=by have:=EY.out;unfold o5 at this;rw[if_neg (by rw[OW.out,JO.out];simp),ht] at this;rw[←h6];exact this
        have k6:y6.told.length≤x.told.length+4∧y6.fails=x.fails:=by rw[←h6];exact⟨KK.out.2.1,KK.out.2.2.1⟩
        have E6:=am h6;have EO:=am hz;have B6:=am k6;have oct:=H1.out.oct H10.out OC.out;refine sq fun K13 J13=>?_;have hfs:=H10.out.lk.core;obtain⟨s0,s14,s15,s16,s17,s18,s19,s20,s21,s22,s23,s24,z0,z18,z19,z20,z21,z22,z23,z24⟩:=hfs.fs;clear hfs;unfold qcu ptr at s17;have bb:=H1.out.blk H10.out BX.out (by decide);have b0:=bb.c 0 rfl;have b1:=bb.c 1 rfl;have b2:=bb.c 2 rfl;have b3:=bb.c 3 rfl;have b4:=bb.c 4 rfl;have b5:=bb.c 5 rfl;have b6:=bb.c 6 rfl;have b7:=bb.c 7 rfl;clear bb;have H14:=am H10.out.drew;have okw:WOk y5.w:=by rw[KK.out.2.2.2];exact KO.out.2
        have hcall:=qww H14.out.way okw u Au cu (oct.below (qaf (Below.refl _ _))) HLEN.out HMAX.out;rw[ht] at hcall;unfold qsv at hcall;simp only[qq3] at hcall;have HCA:=am hcall;clear hcall ht h6 hz k6 okw oct;refine sr 13 (fun W=>W.cell? ⟨A.s,17,none⟩=some (.iface A.ty (.pointer (some ⟨A.w,0,none⟩)))∧W.cell? ⟨B,0,none⟩=some (.int .u8 u.bsn)∧W.cell? ⟨B,1,none⟩=some (.int .u8 u.fsn)∧W.cell? ⟨B,2,none⟩=some (.bool u.bib)∧W.cell? ⟨B,3,none⟩=some (.bool u.fib)∧W.cell? ⟨B,4,none⟩=some (.int .u8 u.kind)∧W.cell? ⟨B,5,none⟩=some (.int .u8 u.status)∧W.cell? ⟨B,6,none⟩=some (.bool u.wide)∧W.cell? ⟨B,7,none⟩=some (.slice Au u.info.length cu)) [5] (show _∧_∧_∧_∧_∧_∧_∧_∧_ from ⟨s17,b0,b1,b2,b3,b4,b5,b6,b7⟩) (fun hY=>?_);refine pu 0 98 ?_;refine pu 1 99 ?_;refine pu 2 100 ?_;refine tk 3 101 hY ?_;refine tk 4 102 hY ?_;refine la_ 5 103 (fun K hK=>?_);refine qn4 A.fTake #[.pointer (some ⟨A.w,0,none⟩),qax u (.slice Au u.info.length cu)] (by rfl) rfl ?_ ?_
        ·go_simp
         try rfl
        with_reducible refine(HCA.out).mono ?_
        rintro e w15 ⟨vv,rfl,hR,hy,ho⟩;refine⟨_,rfl,?_⟩;refine hK.out _ _ ?_;clear hK K;refine nm 103 ?_;refine pu 6 97 ?_;refine pu 7 104 ?_;refine pu 8 105 ?_;refine pu 9 106 ?_;refine pu 10 6 ?_;refine pu 11 7 ?_;refine pu 12 5 ?_;refine qav (by kernel_rfl) ?_;have hR':=Kd.R_mono hR (fun k hk=>qbp H14.out.only.size ho.size k hk);have hn:=H14.out.wacts hy ho;rw[show upW y5 wt=y6 from E6.out] at hn;have H15:=am hn;have HR:=am hR';clear hy ho hn hR hR' HCA;clear s0 s14 s15 s16 s17 s18 s19 s20 s21 s22 s23 s24 z0 z18 z19 z20 z21 z22 z23 z24 b0 b1 b2 b3 b4 b5 b6 b7;refine J13.out _ _ ?_;clear J13;rcases rt with _|(_|p)
        ·unfold tkV tkB tkE;have hfs:=H15.out.lk.core;obtain⟨s0,s14,s15,s16,s17,s18,s19,s20,s21,s22,s23,s24,z0,z18,z19,z20,z21,z22,z23,z24⟩:=hfs.fs;clear hfs
         go_wp2_with fail
         refine(qa3 H15.out.lk (by rw[B6.out.2];exact HF.out) (by have:=B6.out.1;have:=HL.out;omega) 4).mono ?_;rintro e w16 h';obtain⟨rfl,vt16,h''⟩:=H15.out.acts h' (qdb _ 4);have H16:=am h'';clear h' h'';go_wp2;go_end0;rw[show z=_ from EO.out.symm];exact HB.out.facts H16.out.fin
        ·unfold tkV tkB tkE;have hfs:=H15.out.lk.core;obtain⟨s0,s14,s15,s16,s17,s18,s19,s20,s21,s22,s23,s24,z0,z18,z19,z20,z21,z22,z23,z24⟩:=hfs.fs;clear hfs
         go_wp2_with fail
         go_wp2;go_end0;rw[show z=_ from EO.out.symm];exact HB.out.facts H15.out.fin
        ·unfold tkV tkB tkE;obtain⟨Av,cv,hv⟩:=Kd.R_slice HR.out;have hv2:vv=.slice Av p.length cv:=by rw[hv,List.length_map];rfl
         have hR:(Kd.int .u8).R 5 w15 0 (qbe (qbe O w W) W w15) (.slice Av p.length cv) (p.map (fun n:Nat=>(n:Int))):=by rw[←hv2];exact HR.out
         clear HR hv;subst hv2;have HR:=am hR;clear hR;have hfs:=H15.out.lk.core;obtain⟨s0,s14,s15,s16,s17,s18,s19,s20,s21,s22,s23,s24,z0,z18,z19,z20,z21,z22,z23,z24⟩:=hfs.fs;clear hfs
         go_wp2_with fail
         refine(qa5 H15.out.lk (by have:=B6.out.1;have:=HL.out;omega) ⟨3,0,p⟩ _ HR.out).mono ?_;rintro e w16 h';obtain⟨rfl,vt16,h''⟩:=H15.out.acts h' rfl;have H16:=am h'';clear h' h'';go_wp2;go_end0;rw[show z=_ from EO.out.symm];exact HB.out.facts H16.out.fin
       ·skip;have hfs:=H10.out.lk.core;obtain⟨s0,s14,s15,s16,s17,s18,s19,s20,s21,s22,s23,s24,z0,z18,z19,z20,z21,z22,z23,z24⟩:=hfs.fs;clear hfs;obtain⟨j13,j14,j15,j16,k14,k15,k16⟩:=H10.out.lk.core.fj;rw[OW.out] at s18;rw[JO.out] at j14
        go_wp2_with fail
        go_wp2;go_end0;rw[show z=_ from EY.out.symm.trans (if_pos (Or.inr JO.out))];exact HB.out.facts H10.out.fin
      ·skip;have hfs:=H10.out.lk.core;obtain⟨s0,s14,s15,s16,s17,s18,s19,s20,s21,s22,s23,s24,z0,z18,z19,z20,z21,z22,z23,z24⟩:=hfs.fs;clear hfs;obtain⟨j13,j14,j15,j16,k14,k15,k16⟩:=H10.out.lk.core.fj;rw[OW.out] at s18
       go_wp2_with fail
       go_wp2;go_end0;rw[show z=_ from EY.out.symm.trans (if_pos (Or.inl OW.out))];exact HB.out.facts H10.out.fin
     clear k10;obtain⟨th,hth⟩:∃b,y4.j.their=b:=⟨_,rfl⟩;have TH:=am hth;clear hth;cases th
     ·skip;have he:y5=y4:=by rw[←E5.out];exact if_neg (fun h=>by have:=h.1;rw[TH.out] at this;cases this)
      rw[he] at J10;clear he;have hfs:=H8.out.lk.core;obtain⟨s0,s14,s15,s16,s17,s18,s19,s20,s21,s22,s23,s24,z0,z18,z19,z20,z21,z22,z23,z24⟩:=hfs.fs;clear hfs;unfold qcu ptr at s17;obtain⟨j13,j14,j15,j16,k14,k15,k16⟩:=H8.out.lk.core.fj;rw[TH.out] at j15
      try clear hk
      try clear hn0
      go_wp2_with fail
      refine J10.out _ _ _ _ _ _ _ _ _ _ _ _ _ _ _ _ _ _ _ _ _ _ _ _ _ _ _ _ _ _ _ _ _ _ _ _ _ _ _ _ _ _ _ _ _ _ _ _ _ _ _ _ _ _ _ _ _ _ _ _ _ _ _ _ _ _ _ _ _ _ _ _ _ _ _ _ _ _ _ _ _ _ _ _ _ _ _ _ _ _ _ _ _ _ _ _ _ _ _ _ _ _ _ _ _ _ _ _ _ _ _ _ _ _ _ H8.out
     by_cases hk:0<ka
     ·skip;have he:y5=y4.jAnswer.1.tell ⟨7,0,[]⟩:=by rw[←E5.out];exact if_pos (⟨TH.out,Or.inl hk⟩)
      rw[he] at J10;clear he;have ja:y4.jAnswer.2=true:=by unfold Sig.Link.jAnswer;rw[if_pos TH.out]
      have hcall:=qes H8.out.lk.core;rw[ja] at hcall;have HCA:=am hcall;have JK:=am (qdo y4);clear ja hcall;have hfs:=H8.out.lk.core;obtain⟨s0,s14,s15,s16,s17,s18,s19,s20,s21,s22,s23,s24,z0,z18,z19,z20,z21,z22,z23,z24⟩:=hfs.fs;clear hfs;unfold qcu ptr at s17;obtain⟨j13,j14,j15,j16,k14,k15,k16⟩:=H8.out.lk.core.fj;rw[TH.out] at j15;have ek:decide (0<ka)=true:=decide_eq_true (by omega)
      try clear hk
      try clear hn0
      go_wp2_with fail
      refine HCA.out.mono ?_;rintro e w11 ⟨rfl,h',o'⟩;have H11:=am (H8.out.turn h' o' JK.out.1 JK.out.2.2);clear h' o';clear s0 s14 s15 s16 s17 s18 s19 s20 s21 s22 s23 s24 z0 z18 z19 z20 z21 z22 z23 z24 j13 j14 j15 j16 k14 k15 k16;have hfs:=H11.out.lk.core;obtain⟨s0,s14,s15,s16,s17,s18,s19,s20,s21,s22,s23,s24,z0,z18,z19,z20,z21,z22,z23,z24⟩:=hfs.fs;clear hfs
      go_wp2_with fail
      refine(qa5 H11.out.lk (by rw[JK.out.1];have:=KK.out.1.1;have:=HL.out;omega) ⟨7,0,[]⟩ _ (qa9 _ _)).mono ?_;rintro e w12 h';obtain⟨rfl,vt12,h''⟩:=H11.out.acts h' rfl;have H12:=am h'';clear h' h'';clear s0 s14 s15 s16 s17 s18 s19 s20 s21 s22 s23 s24 z0 z18 z19 z20 z21 z22 z23 z24;have hfs:=H12.out.lk.core;obtain⟨s0,s14,s15,s16,s17,s18,s19,s20,s21,s22,s23,s24,z0,z18,z19,z20,z21,z22,z23,z24⟩:=hfs.fs;clear hfs
      go_wp2_with fail
      refine J10.out _ _ _ _ _ _ _ _ _ _ _ _ _ _ _ _ _ _ _ _ _ _ _ _ _ _ _ _ _ _ _ _ _ _ _ _ _ _ _ _ _ _ _ _ _ _ _ _ _ _ _ _ _ _ _ _ _ _ _ _ _ _ _ _ _ _ _ _ _ _ _ _ _ _ _ _ _ _ _ _ _ _ _ _ _ _ _ _ _ _ _ _ _ _ _ _ _ _ _ _ _ _ _ _ _ _ _ _ _ _ _ _ _ _ _ H12.out
     by_cases hn0:n=0
     ·skip;have he:y5=y4.jAnswer.1.tell ⟨7,0,[]⟩:=by rw[←E5.out];exact if_pos (⟨TH.out,Or.inr (HN.out.trans hn0)⟩)
      rw[he] at J10;clear he;have ja:y4.jAnswer.2=true:=by unfold Sig.Link.jAnswer;rw[if_pos TH.out]
      have hcall:=qes H8.out.lk.core;rw[ja] at hcall;have HCA:=am hcall;have JK:=am (qdo y4);clear ja hcall;have hfs:=H8.out.lk.core;obtain⟨s0,s14,s15,s16,s17,s18,s19,s20,s21,s22,s23,s24,z0,z18,z19,z20,z21,z22,z23,z24⟩:=hfs.fs;clear hfs;unfold qcu ptr at s17;obtain⟨j13,j14,j15,j16,k14,k15,k16⟩:=H8.out.lk.core.fj;rw[TH.out] at j15;have ek:decide (0<ka)=false:=decide_eq_false (by omega);have en:=b_t n 0 (by omega)
      try clear hk
      try clear hn0
      go_wp2_with fail
      refine(qfv H8.out.way).mono ?_;rintro e w9 ⟨rfl,rfl⟩
      go_wp2_with fail
      refine(qd6 HH.out HN.out).mono ?_;rintro e w9 ⟨rfl,rfl⟩
      go_wp2_with fail
      refine HCA.out.mono ?_;rintro e w11 ⟨rfl,h',o'⟩;have H11:=am (H8.out.turn h' o' JK.out.1 JK.out.2.2);clear h' o';clear s0 s14 s15 s16 s17 s18 s19 s20 s21 s22 s23 s24 z0 z18 z19 z20 z21 z22 z23 z24 j13 j14 j15 j16 k14 k15 k16;have hfs:=H11.out.lk.core;obtain⟨s0,s14,s15,s16,s17,s18,s19,s20,s21,s22,s23,s24,z0,z18,z19,z20,z21,z22,z23,z24⟩:=hfs.fs;clear hfs
      go_wp2_with fail
      refine(qa5 H11.out.lk (by rw[JK.out.1];have:=KK.out.1.1;have:=HL.out;omega) ⟨7,0,[]⟩ _ (qa9 _ _)).mono ?_;rintro e w12 h';obtain⟨rfl,vt12,h''⟩:=H11.out.acts h' rfl;have H12:=am h'';clear h' h'';clear s0 s14 s15 s16 s17 s18 s19 s20 s21 s22 s23 s24 z0 z18 z19 z20 z21 z22 z23 z24;have hfs:=H12.out.lk.core;obtain⟨s0,s14,s15,s16,s17,s18,s19,s20,s21,s22,s23,s24,z0,z18,z19,z20,z21,z22,z23,z24⟩:=hfs.fs;clear hfs
      go_wp2_with fail
      refine J10.out _ _ _ _ _ _ _ _ _ _ _ _ _ _ _ _ _ _ _ _ _ _ _ _ _ _ _ _ _ _ _ _ _ _ _ _ _ _ _ _ _ _ _ _ _ _ _ _ _ _ _ _ _ _ _ _ _ _ _ _ _ _ _ _ _ _ _ _ _ _ _ _ _ _ _ _ _ _ _ _ _ _ _ _ _ _ _ _ _ _ _ _ _ _ _ _ _ _ _ _ _ _ _ _ _ _ _ _ _ _ _ _ _ _ _ H12.out
     ·skip;have he:y5=y4:=by rw[←E5.out];exact if_neg (fun h=>h.2.elim hk (fun h=>hn0 (HN.out.symm.trans h)))
      rw[he] at J10;clear he;have hfs:=H8.out.lk.core;obtain⟨s0,s14,s15,s16,s17,s18,s19,s20,s21,s22,s23,s24,z0,z18,z19,z20,z21,z22,z23,z24⟩:=hfs.fs;clear hfs;unfold qcu ptr at s17;obtain⟨j13,j14,j15,j16,k14,k15,k16⟩:=H8.out.lk.core.fj;rw[TH.out] at j15;have ek:decide (0<ka)=false:=decide_eq_false (by omega);have en:=b_f n 0 (by omega)
      try clear hk
      try clear hn0
      go_wp2_with fail
      refine(qfv H8.out.way).mono ?_;rintro e w9 ⟨rfl,rfl⟩
      go_wp2_with fail
      refine(qd6 HH.out HN.out).mono ?_;rintro e w9 ⟨rfl,rfl⟩
      go_wp2_with fail
      refine J10.out _ _ _ _ _ _ _ _ _ _ _ _ _ _ _ _ _ _ _ _ _ _ _ _ _ _ _ _ _ _ _ _ _ _ _ _ _ _ _ _ _ _ _ _ _ _ _ _ _ _ _ _ _ _ _ _ _ _ _ _ _ _ _ _ _ _ _ _ _ _ _ _ _ _ _ _ _ _ _ _ _ _ _ _ _ _ _ _ _ _ _ _ _ _ _ _ _ _ _ _ _ _ _ _ _ _ _ _ _ _ _ _ _ _ _ H8.out
    clear k8;have hfs:=H5.out.lk.core;obtain⟨s0,s14,s15,s16,s17,s18,s19,s20,s21,s22,s23,s24,z0,z18,z19,z20,z21,z22,z23,z24⟩:=hfs.fs;clear hfs;by_cases hk:0<ka
    ·have ek:decide (0<ka)=true:=decide_eq_true (by omega);by_cases h4:y3.s=4
     ·have e4:=b_t y3.s 4 (by omega);have he:y4=y3.wait true:=by rw[←E4.out];exact if_pos ⟨hk,h4⟩
      rw[he] at J8;clear he hk h4
      go_wp2_with fail
      refine(qe2 H5.out.lk H5.out.way true).mono ?_;rintro e w6 h';obtain⟨rfl,vt6,h''⟩:=H5.out.facts h';have H6:=am h'';clear h' h'';clear s0 s14 s15 s16 s17 s18 s19 s20 s21 s22 s23 s24 z0 z18 z19 z20 z21 z22 z23 z24;have hfs:=H6.out.lk.core;obtain⟨s0,s14,s15,s16,s17,s18,s19,s20,s21,s22,s23,s24,z0,z18,z19,z20,z21,z22,z23,z24⟩:=hfs.fs;clear hfs
      go_wp2_with fail
      refine J8.out _ _ _ _ _ _ _ _ _ _ _ _ _ _ _ _ _ _ _ _ _ _ _ _ _ _ _ _ _ _ _ _ _ _ _ _ _ _ _ _ _ _ _ _ _ _ _ _ _ _ _ _ _ _ _ _ _ _ _ _ _ _ _ _ _ _ _ _ _ _ _ _ _ _ _ _ _ _ _ _ _ _ _ _ _ _ _ _ _ _ _ _ _ _ _ _ _ _ _ _ _ _ _ _ _ _ _ _ _ _ _ _ _ _ _ H6.out
     ·have e4:=b_f y3.s 4 (by omega);have he:y4=y3:=by rw[←E4.out];exact if_neg (fun h=>h4 h.2)
      rw[he] at J8;clear he hk h4
      go_wp2_with fail
      refine J8.out _ _ _ _ _ _ _ _ _ _ _ _ _ _ _ _ _ _ _ _ _ _ _ _ _ _ _ _ _ _ _ _ _ _ _ _ _ _ _ _ _ _ _ _ _ _ _ _ _ _ _ _ _ _ _ _ _ _ _ _ _ _ _ _ _ _ _ _ _ _ _ _ _ _ _ _ _ _ _ _ _ _ _ _ _ _ _ _ _ _ _ _ _ _ _ _ _ _ _ _ _ _ _ _ _ _ _ _ _ _ _ _ _ _ _ H5.out
    ·have ek:decide (0<ka)=false:=decide_eq_false (by omega);have he:y4=y3:=by rw[←E4.out];exact if_neg (fun h=>hk h.1)
     rw[he] at J8;clear he hk
     go_wp2_with fail
     refine J8.out _ _ _ _ _ _ _ _ _ _ _ _ _ _ _ _ _ _ _ _ _ _ _ _ _ _ _ _ _ _ _ _ _ _ _ _ _ _ _ _ _ _ _ _ _ _ _ _ _ _ _ _ _ _ _ _ _ _ _ _ _ _ _ _ _ _ _ _ _ _ _ _ _ _ _ _ _ _ _ _ _ _ _ _ _ _ _ _ _ _ _ _ _ _ _ _ _ _ _ _ _ _ _ _ _ _ _ _ _ _ _ _ _ _ _ H5.out
  clear k3;obtain⟨th,hth⟩:∃b,y1.o.their=b:=⟨_,rfl⟩;have TH:=am hth;clear hth;cases th
  ·have he:y2=y1:=by rw[←E2.out];unfold o2;rw[TH.out];rfl
   rw[he] at J3;clear he;have hfs:=H2.out.lk.core;obtain⟨s0,s14,s15,s16,s17,s18,s19,s20,s21,s22,s23,s24,z0,z18,z19,z20,z21,z22,z23,z24⟩:=hfs.fs;clear hfs;rw[TH.out] at s19
   go_wp2_with fail
   refine J3.out _ _ _ _ _ _ _ _ _ _ _ _ _ _ _ _ _ _ _ _ _ _ _ _ _ _ _ _ _ _ _ _ _ _ _ _ _ _ _ _ _ _ _ _ _ _ _ _ _ _ _ _ _ _ _ _ _ _ _ _ _ _ _ _ _ _ _ _ _ _ _ _ _ _ _ _ _ _ _ _ _ _ _ _ _ _ _ _ _ _ _ _ _ _ _ _ _ _ _ _ _ _ _ _ _ _ _ _ _ _ _ _ _ _ _ _ H2.out
  ·have he:y2=y1.remote false:=by rw[←E2.out];unfold o2;rw[TH.out];rfl
   rw[he] at J3;clear he;have hfs:=H2.out.lk.core;obtain⟨s0,s14,s15,s16,s17,s18,s19,s20,s21,s22,s23,s24,z0,z18,z19,z20,z21,z22,z23,z24⟩:=hfs.fs;clear hfs;rw[TH.out] at s19
   go_wp2_with fail
   refine(qdk H2.out.lk H2.out.way (by have:=KP.out.1.1;have:=HL.out;omega) false).mono ?_;rintro e w3 h';obtain⟨rfl,vt3,h''⟩:=H2.out.facts h';have H3:=am h'';clear h' h'';clear s0 s14 s15 s16 s17 s18 s19 s20 s21 s22 s23 s24 z0 z18 z19 z20 z21 z22 z23 z24;have hfs:=H3.out.lk.core;obtain⟨s0,s14,s15,s16,s17,s18,s19,s20,s21,s22,s23,s24,z0,z18,z19,z20,z21,z22,z23,z24⟩:=hfs.fs;clear hfs
   go_wp2_with fail
   refine J3.out _ _ _ _ _ _ _ _ _ _ _ _ _ _ _ _ _ _ _ _ _ _ _ _ _ _ _ _ _ _ _ _ _ _ _ _ _ _ _ _ _ _ _ _ _ _ _ _ _ _ _ _ _ _ _ _ _ _ _ _ _ _ _ _ _ _ _ _ _ _ _ _ _ _ _ _ _ _ _ _ _ _ _ _ _ _ _ _ _ _ _ _ _ _ _ _ _ _ _ _ _ _ _ _ _ _ _ _ _ _ _ _ _ _ _ _ H3.out
 clear k2;by_cases h2:x.s=2
 ·skip;have hfs:=H1.out.lk.core;obtain⟨s0,s14,s15,s16,s17,s18,s19,s20,s21,s22,s23,s24,z0,z18,z19,z20,z21,z22,z23,z24⟩:=hfs.fs;clear hfs;have he:y1=x.serve:=by rw[←E1.out];exact if_pos (Or.inl h2)
  rw[he] at J2;clear he;have e2:=b_t x.s 2 (by omega)
  try clear hs
  try clear h2
  try clear h3
  go_wp2_with fail
  refine(qc1 H1.out.lk (by have:=HL.out;omega)).mono ?_;rintro e w2 h';obtain⟨rfl,vt2,h''⟩:=H1.out.acts h' (qga x);have H2:=am h'';clear h' h'';clear s0 s14 s15 s16 s17 s18 s19 s20 s21 s22 s23 s24 z0 z18 z19 z20 z21 z22 z23 z24;have hfs:=H2.out.lk.core;obtain⟨s0,s14,s15,s16,s17,s18,s19,s20,s21,s22,s23,s24,z0,z18,z19,z20,z21,z22,z23,z24⟩:=hfs.fs;clear hfs
  go_wp2_with fail
  refine J2.out _ _ _ _ _ _ _ _ _ _ _ _ _ _ _ _ _ _ _ _ _ _ _ _ _ _ _ _ _ _ _ _ _ _ _ _ _ _ _ _ _ _ _ _ _ _ _ _ _ _ _ _ _ _ _ _ _ _ _ _ _ _ _ _ _ _ _ _ _ _ _ _ _ _ _ _ _ _ _ _ _ _ _ _ _ _ _ _ _ _ _ _ _ _ _ _ _ _ _ _ _ _ _ _ _ _ _ _ _ _ _ _ _ _ _ _ H2.out
 by_cases h3:x.s=3
 ·skip;have hfs:=H1.out.lk.core;obtain⟨s0,s14,s15,s16,s17,s18,s19,s20,s21,s22,s23,s24,z0,z18,z19,z20,z21,z22,z23,z24⟩:=hfs.fs;clear hfs;have he:y1=x.serve:=by rw[←E1.out];exact if_pos (Or.inr h3)
  rw[he] at J2;clear he;have e2:=b_f x.s 2 (by omega);have e3:=b_t x.s 3 (by omega)
  try clear hs
  try clear h2
  try clear h3
  go_wp2_with fail
  refine(qc1 H1.out.lk (by have:=HL.out;omega)).mono ?_;rintro e w2 h';obtain⟨rfl,vt2,h''⟩:=H1.out.acts h' (qga x);have H2:=am h'';clear h' h'';clear s0 s14 s15 s16 s17 s18 s19 s20 s21 s22 s23 s24 z0 z18 z19 z20 z21 z22 z23 z24;have hfs:=H2.out.lk.core;obtain⟨s0,s14,s15,s16,s17,s18,s19,s20,s21,s22,s23,s24,z0,z18,z19,z20,z21,z22,z23,z24⟩:=hfs.fs;clear hfs
  go_wp2_with fail
  refine J2.out _ _ _ _ _ _ _ _ _ _ _ _ _ _ _ _ _ _ _ _ _ _ _ _ _ _ _ _ _ _ _ _ _ _ _ _ _ _ _ _ _ _ _ _ _ _ _ _ _ _ _ _ _ _ _ _ _ _ _ _ _ _ _ _ _ _ _ _ _ _ _ _ _ _ _ _ _ _ _ _ _ _ _ _ _ _ _ _ _ _ _ _ _ _ _ _ _ _ _ _ _ _ _ _ _ _ _ _ _ _ _ _ _ _ _ _ H2.out
 have hfs:=H1.out.lk.core;obtain⟨s0,s14,s15,s16,s17,s18,s19,s20,s21,s22,s23,s24,z0,z18,z19,z20,z21,z22,z23,z24⟩:=hfs.fs;clear hfs;have he:y1=x:=by rw[←E1.out];exact if_neg (by omega)
 rw[he] at J2;clear he;have e2:=b_f x.s 2 (by omega);have e3:=b_f x.s 3 (by omega)
 try clear hs
 try clear h2
 try clear h3
 go_wp2_with fail
 refine J2.out _ _ _ _ _ _ _ _ _ _ _ _ _ _ _ _ _ _ _ _ _ _ _ _ _ _ _ _ _ _ _ _ _ _ _ _ _ _ _ _ _ _ _ _ _ _ _ _ _ _ _ _ _ _ _ _ _ _ _ _ _ _ _ _ _ _ _ _ _ _ _ _ _ _ _ _ _ _ _ _ _ _ _ _ _ _ _ _ _ _ _ _ _ _ _ _ _ _ _ _ _ _ _ _ _ _ _ _ _ _ _ _ _ _ _ _ H1.out
theorem qbs (x:Sig.Link) (why:Nat):(x.fail why).told.length≤x.told.length+1∧(x.fail why).fails≤x.fails+1∧(x.fail why).w=x.w:=by
 refine⟨?_,?_,qdb x why⟩
 ·unfold Sig.Link.fail;split
  ·omega
  ·simp[Sig.Link.tell,Sig.Link.jClear,Sig.Link.aEnd,Sig.Link.stop]
 ·unfold Sig.Link.fail;split
  ·omega
  ·exact Nat.le_refl _
theorem qff (x:Sig.Link) (b:Bool):(x.count b).told.length≤x.told.length+1∧(x.count b).fails≤x.fails+1∧(x.count b).w=x.w:=by
 unfold Sig.Link.count;split
 ·exact⟨by omega,by omega,rfl⟩
 split
 ·obtain⟨a,t,f⟩:=qh0 x b;simp only;split
  ·obtain⟨p,q,r⟩:=qbs (x.aUnit b).1 (x.aUnit b).2;rw[t] at p;rw[f] at q;rw[a] at r;exact⟨p,q,r⟩
  ·exact⟨by rw[t];omega,by rw[f];omega,a⟩
 ·simp only;split
  ·exact qbs { x with leak:=(x.leak.unit b).1 } 1
  ·exact⟨by show x.told.length≤_;omega,by show x.fails≤_;omega,rfl⟩
theorem qft {A:Adr} {O:Nat→Prop} {x:Sig.Link} {vt:Value} {w:World} (h:Lk w A O x vt) (hw:WayAt w A O x.w) (hf:x.fails<900000) (hl:x.told.length≤700000) (hn:x.a.p.n≤1000) (ht:x.a.p.tries≤1000) (hk:x.leak.n≤1000) (hks:x.leak.seen≤1000) :
  Calls Tryz.prog 76 #[.pointer (some ⟨A.s,0,none⟩)] w (qe0 A O w (x.count true) (.tuple #[])):=by
 have H0:=am (FAt.refl h hw);have HF:=am hf;have HL:=am hl;have HN:=am hn;have HT:=am ht;have HK:=am hk;have HKS:=am hks;obtain⟨s0,s14,s15,s16,s17,s18,s19,s20,s21,s22,s23,s24,z0,z18,z19,z20,z21,z22,z23,z24⟩:=h.core.fs;clear h hw hf hl hn ht hk hks;go_enter Tryz.func76,Tryz.ntmps76
 go_wp2_with fail
 refine(qgw H0.out.lk H0.out.way (by have:=HF.out;omega) (by have:=HL.out;omega) HN.out HT.out HK.out HKS.out true).mono ?_;rintro e w1 h';obtain⟨rfl,vt1,h''⟩:=H0.out.facts h';have H1:=am h'';clear h' h'';go_wp2;go_end0;exact H1.out.fin
theorem qnv {A:Adr} {O:Nat→Prop} {x:Sig.Link} {vt:Value} {w:World} (h:Lk w A O x vt) (hw:WayAt w A O x.w) (hf:x.fails<900000) (hl:x.told.length≤700000) (hn:x.a.p.n≤1000) (ht:x.a.p.tries≤1000) (hk:x.leak.n≤1000) (hks:x.leak.seen≤1000) (ok:WOk x.w) (u:Sig.Unit) (Au:Option Addr) (cu:Nat) (hu:u.bsn<256) (hoct:Oct w (.slice Au u.info.length cu) u.info) (hlen:u.kind=2→0<u.info.length) (hmax:u.info.length≤1000000) :
  Calls Tryz.prog 78 #[.pointer (some ⟨A.s,0,none⟩),qax u (.slice Au u.info.length cu)] w (qe0 A O w (x.hear u) (.tuple #[])):=by
 have H0:=am (FAt.refl h hw);have HF:=am hf;have HL:=am hl;have HN:=am hn;have HT:=am ht;have HK:=am hk;have HKS:=am hks;have OK:=am ok;have HU:=am hu;have HLEN:=am hlen;have HMAX:=am hmax;obtain⟨s0,s14,s15,s16,s17,s18,s19,s20,s21,s22,s23,s24,z0,z18,z19,z20,z21,z22,z23,z24⟩:=h.core.fs;clear h hw hf hl hn ht hk hks ok hu hlen hmax;clear s0 s14 s15 s16 s17 s18 s19 s20 s21 s22 s23 s24 z0 z18 z19 z20 z21 z22 z23 z24;unfold qax;obtain⟨y,hy⟩:∃y,x.count false=y:=⟨_,rfl⟩;have kp:=qff x false;rw[hy] at kp;have hz:x.hear u=(if y.s=0 then y else if u.kind=1 then y.status u.status else if y.s=1 then y else y.ordinary u):=by unfold Sig.Link.hear;rw[hy]
 have okw:WOk y.w:=by rw[kp.2.2];exact OK.out
 have KP:=am kp;have HZ:=am hz;have HY:=am hy;have OKY:=am okw;clear kp hz hy okw;go_enter Tryz.func78,Tryz.ntmps78;refine sq fun K0 J0=>?_
 go_wp2_with fail
 refine J0.out _ _ ?_;clear J0;have BX:qac (Blk (w.alloc (.cells (qbg u (.slice Au u.info.length cu)).toArray 167)) w.heap.size 167 (qbg u (.slice Au u.info.length cu))):=⟨heap_alloc_new w _⟩;have hb:Below w.heap.size w (w.alloc (.cells (qbg u (.slice Au u.info.length cu)).toArray 167)):=qaa (Below.refl _ _) _;have HB:=am (H0.out.below hb);have OC:=am (hoct.only (Only.below (P:=fun _=>False) hb) (fun _ h _=>h));clear hoct hb;generalize hW:w.alloc (.cells (qbg u (.slice Au u.info.length cu)).toArray 167)=W at *;have hW':w.alloc (.cells #[.int .u8 u.bsn,.int .u8 u.fsn,.bool u.bib,.bool u.fib,.int .u8 u.kind,.int .u8 u.status,.bool u.wide,.slice Au u.info.length cu] 167)=W:=hW;rw[hW'];clear hW hW';have H1:=am (FAt.refl HB.out.lk HB.out.way);obtain⟨B,hB⟩:∃B,w.heap.size=B:=⟨_,rfl⟩;rw[hB] at BX ⊢;clear hB;have hfs:=H1.out.lk.core;obtain⟨s0,s14,s15,s16,s17,s18,s19,s20,s21,s22,s23,s24,z0,z18,z19,z20,z21,z22,z23,z24⟩:=hfs.fs;clear hfs
 go_wp2_with fail
 refine(qgw H1.out.lk H1.out.way (by have:=HF.out;omega) (by have:=HL.out;omega) HN.out HT.out HK.out HKS.out false).mono ?_;rintro e w2 h';obtain⟨rfl,vt2,h''⟩:=H1.out.facts h';have H2:=am h'';clear h' h'';rw[HY.out] at H2;by_cases h0:y.s=0
 ·have hp:=HZ.out.trans (if_pos h0);have hfs:=H2.out.lk.core;obtain⟨s0,s14,s15,s16,s17,s18,s19,s20,s21,s22,s23,s24,z0,z18,z19,z20,z21,z22,z23,z24⟩:=hfs.fs;clear hfs;have bb:=H1.out.blk H2.out BX.out (by decide);have b0:=bb.c 0 rfl;have b1:=bb.c 1 rfl;have b2:=bb.c 2 rfl;have b3:=bb.c 3 rfl;have b4:=bb.c 4 rfl;have b5:=bb.c 5 rfl;have b6:=bb.c 6 rfl;have b7:=bb.c 7 rfl;clear bb;have HP:=am hp;clear hp;have e0:=b_t y.s 0 (by omega)
  try clear h0
  try clear hk1
  try clear h1
  go_wp2_with fail
  go_end0;rw[HP.out];exact HB.out.facts H2.out.fin
 by_cases hk1:u.kind=1
 ·have hp:=HZ.out.trans ((if_neg h0).trans (if_pos hk1));have hfs:=H2.out.lk.core;obtain⟨s0,s14,s15,s16,s17,s18,s19,s20,s21,s22,s23,s24,z0,z18,z19,z20,z21,z22,z23,z24⟩:=hfs.fs;clear hfs;have bb:=H1.out.blk H2.out BX.out (by decide);have b0:=bb.c 0 rfl;have b1:=bb.c 1 rfl;have b2:=bb.c 2 rfl;have b3:=bb.c 3 rfl;have b4:=bb.c 4 rfl;have b5:=bb.c 5 rfl;have b6:=bb.c 6 rfl;have b7:=bb.c 7 rfl;clear bb;have HP:=am hp;clear hp;have e0:=b_f y.s 0 (by omega);have q1:=b_t u.kind 1 (by omega)
  try clear h0
  try clear hk1
  try clear h1
  go_wp2_with fail
  refine(qjt H2.out.lk H2.out.way (by have:=KP.out.2.1;have:=HF.out;omega) (by have:=KP.out.1;have:=HL.out;omega) u.status).mono ?_;rintro e w3 h';obtain⟨rfl,vt3,h''⟩:=H2.out.facts h';have H3:=am h'';clear h' h'';go_wp2;go_end0;rw[HP.out];exact HB.out.facts H3.out.fin
 by_cases h1:y.s=1
 ·have hp:=HZ.out.trans ((if_neg h0).trans ((if_neg hk1).trans (if_pos h1)));have hfs:=H2.out.lk.core;obtain⟨s0,s14,s15,s16,s17,s18,s19,s20,s21,s22,s23,s24,z0,z18,z19,z20,z21,z22,z23,z24⟩:=hfs.fs;clear hfs;have bb:=H1.out.blk H2.out BX.out (by decide);have b0:=bb.c 0 rfl;have b1:=bb.c 1 rfl;have b2:=bb.c 2 rfl;have b3:=bb.c 3 rfl;have b4:=bb.c 4 rfl;have b5:=bb.c 5 rfl;have b6:=bb.c 6 rfl;have b7:=bb.c 7 rfl;clear bb;have HP:=am hp;clear hp;have e0:=b_f y.s 0 (by omega);have e1:=b_t y.s 1 (by omega);have q1:=b_f u.kind 1 (by omega)
  try clear h0
  try clear hk1
  try clear h1
  go_wp2_with fail
  go_end0;rw[HP.out];exact HB.out.facts H2.out.fin
 ·have hp:=HZ.out.trans ((if_neg h0).trans ((if_neg hk1).trans (if_neg h1)));have hfs:=H2.out.lk.core;obtain⟨s0,s14,s15,s16,s17,s18,s19,s20,s21,s22,s23,s24,z0,z18,z19,z20,z21,z22,z23,z24⟩:=hfs.fs;clear hfs;have bb:=H1.out.blk H2.out BX.out (by decide);have b0:=bb.c 0 rfl;have b1:=bb.c 1 rfl;have b2:=bb.c 2 rfl;have b3:=bb.c 3 rfl;have b4:=bb.c 4 rfl;have b5:=bb.c 5 rfl;have b6:=bb.c 6 rfl;have b7:=bb.c 7 rfl;clear bb;have HP:=am hp;clear hp;have e0:=b_f y.s 0 (by omega);have e1:=b_f y.s 1 (by omega);have q1:=b_f u.kind 1 (by omega)
  try clear h0
  try clear hk1
  try clear h1
  go_wp2_with fail
  refine(qhg H2.out.lk H2.out.way OKY.out (by have:=KP.out.2.1;have:=HF.out;omega) (by have:=KP.out.1;have:=HL.out;omega) u Au cu HU.out (H1.out.oct H2.out OC.out) HLEN.out HMAX.out).mono ?_;rintro e w3 h';obtain⟨rfl,vt3,h''⟩:=H2.out.facts h';have H3:=am h'';clear h' h'';go_wp2;go_end0;rw[HP.out];exact HB.out.facts H3.out.fin
section
variable {A:Adr} {O P:Nat→Prop} {w w1 w2:World} {x:Sig.Link} {vt:Value}
theorem Lk.far (h:Lk w A O x vt) (ho:Only P w w2) (hown:∀k,Own A k→¬P k) (h8:∀k,O k→Typed w k 184→¬P k) (h5:qca P w):Lk w2 A O x vt:=by
 refine⟨h.core.only ho hown,?_,fun k hk=>⟨Nat.lt_of_lt_of_le (h.lt k hk).1 ho.size,(h.lt k hk).2⟩⟩;refine Kd.R_mono (Kd.R_step (Kd.R_bound h.told) (fun k hk hlt=>ho.block k hlt (fun hp=>?_))) (fun k hk=>hk.1);obtain⟨hO,_,_,q,hq,cells,hc'⟩:=hk;rcases List.mem_cons.1 hq with rfl|hq
 ·exact h8 k hO ⟨cells,_,hc'⟩ hp
 ·have hq5:q∈([5]:List Nat):=hq;have:=List.mem_singleton.1 hq5;subst this;exact h5 k hp ⟨cells,_,hc'⟩
theorem FAt.far (h:FAt A O w x w1 vt) (ho:Only P w1 w2) (hw:∀k,P k→w.heap.size≤k) (hown:∀k,Own A k→¬P k) (hA:¬P A.w) (hH:¬P A.h) (h8:∀k,qbe O w w1 k→(Typed w1 k 184∨Typed w1 k 23)→¬P k) (h5:qca P w1):FAt A O w x w2 vt:=by
 refine⟨(h.lk.far ho hown (fun k hk ht=>h8 k hk (Or.inl ht)) h5).mono (fun k hk=>?_) (fun k hk=>?_),(h.way.only ho hA hH (fun k hk ht=>h8 k hk (Or.inr ht)) h5).mono (fun k hk _=>?_),?_⟩
 ·rcases hk with hk|hk
  ·exact Or.inl hk
  ·exact Or.inr ⟨hk.1,Nat.lt_of_lt_of_le hk.2 ho.size⟩
 ·rcases hk with hk|hk
  ·exact⟨Nat.lt_of_lt_of_le (h.lk.lt k (Or.inl hk)).1 ho.size,(h.lk.lt k (Or.inl hk)).2⟩
  ·by_cases hlt:k<w1.heap.size
   ·exact⟨hk.2,(h.lk.lt k (Or.inr ⟨hk.1,hlt⟩)).2⟩
   ·exact⟨hk.2,fun hn=>hlt (h.lk.own_lt k hn)⟩
 ·rcases hk with hk|hk
  ·exact Or.inl hk
  ·exact Or.inr ⟨hk.1,Nat.lt_of_lt_of_le hk.2 ho.size⟩
 ·refine⟨ho.os.trans h.only.os,ho.tape.trans h.only.tape,ho.output.trans h.only.output,Nat.le_trans h.only.size ho.size,fun k hk hn=>?_⟩;exact(ho.block k (Nat.lt_of_lt_of_le hk h.only.size) (fun hp=>by have:=hw k hp;omega)).trans (h.only.block k hk hn)
theorem FAt.room (h:FAt A O w x w1 vt) {g:Nat} (hg:w.heap.size≤g) (ht:Typed w1 g 167) (ho:Only (fun k=>k=g) w1 w2):FAt A O w x w2 vt:=by
 have ne:∀k t,Typed w1 k t→t≠167→¬k=g:=fun k t hk hn he=>by
  subst he;have:=ht.ne hk;omega
 refine h.far ho (fun k hk=>by omega) (fun k hk=>?_) ?_ (ne _ _ h.way.typed.2 (by decide)) (fun k _ hk=>?_) (fun k hk hk5=>ne k 5 hk5 (by decide) hk)
 ·obtain⟨t,h1,h2⟩:=h.lk.ownT k hk;exact ne k t h1 (by omega)
 ·rcases h.way.typed.1 with hk|hk
  ·exact ne _ _ hk (by decide)
  ·exact ne _ _ hk (by decide)
 ·rcases hk with hk|hk
  ·exact ne k _ hk (by decide)
  ·exact ne k _ hk (by decide)
end
def qmc (A:Adr) (O:Nat→Prop) (w:World) (x:Sig.Link) (info:List Nat) (r:Value→Value) (e:Ending) (w':World):Prop:=∃v,e=.returned (r v)∧Oct w' v info∧∃vt,FAt A O w x w' vt
theorem qkp (x:Sig.Way):x.fill.info=[]:=by cases x <;> rfl
theorem qc0 (x:Sig.Way) (s:Nat):(x.status s).info=[]:=by cases x <;> rfl
theorem FAt.wr0 {A:Adr} {O:Nat→Prop} {x:Sig.Link} {vt:Value} {w w1:World} (h:FAt A O w x w1 vt) {k t:Nat} (ht:Typed w1 k t) (hn:t≠54∧t≠152∧t≠62∧t≠177∧t≠184∧t≠205∧t≠203∧t≠148∧t≠23):¬WrF A (qbe O w w1) w1 k:=by
 rintro(hk|hk)
 ·exact qby h.lk ht (by omega) hk
 ·exact qf1 h.way ht (by omega) hk
theorem qhq {w:World} {l:List Nat} (h:l=[]):Oct w (.slice none 0 0) l:=by subst h;exact Rw.nil _ _ _
theorem FAt.ret {fn:Func} {a:Act} {p:Tmp} {A:Adr} {O:Nat→Prop} {x y:Sig.Link} {vt vt1:Value} {w W w1:World} {g:Nat} (hres:fn.results=#[.cell p 167]) (HB:FAt A O w x W vt) (hg:w.heap.size≤g) (hr:Blk w1 g 167 zero8) (q:FAt A (qbe O w W) W y w1 vt1) {u:Sig.Unit} {v:Value} (ho:Oct w1 v u.info) (hp:a.tmps.getD p undef=.pointer (some ⟨g,0,none⟩)) (hd:a.defers=[]) :
  bodyPost Tryz.prog fn (qmc A O w y u.info (qax u)) .ret a ((((((((w1.setCell ⟨g,0,none⟩ (.int .u8 u.bsn)).setCell ⟨g,1,none⟩ (.int .u8 u.fsn)).setCell ⟨g,2,none⟩ (.bool u.bib)).setCell ⟨g,3,none⟩ (.bool u.fib)).setCell ⟨g,4,none⟩ (.int .u8 u.kind)).setCell ⟨g,5,none⟩ (.int .u8 u.status)).setCell ⟨g,6,none⟩ (.bool u.wide)).setCell ⟨g,7,none⟩ v):=by
 obtain⟨_,vt2,q2⟩:=HB.facts (q.fin (r:=.tuple #[]));refine qc2 hres ((((((((hr.set 0 _).set 1 _).set 2 _).set 3 _).set 4 _).set 5 _).set 6 _).set 7 _) rfl hp hd ⟨v,rfl,?_,vt2,q2.room hg hr.typed (qfx g _ _ _ _ _ _ _ _ _)⟩;exact ho.only (qfx g _ _ _ _ _ _ _ _ _) (fun k e ht=>by
  have e:k=g:=e;subst e;exact absurd (ht.ne hr.typed) (by decide))
theorem qnm {A:Adr} {O:Nat→Prop} {x:Sig.Link} {vt:Value} {w:World} (h:Lk w A O x vt) (hw:WayAt w A O x.w) (ok:WOk x.w) :
  Calls Tryz.prog 80 #[.pointer (some ⟨A.s,0,none⟩)] w (qmc A O w x.next.1 x.next.2.info (qax x.next.2)):=by
 have hmF:=qvl A;have hcF:=qsu A;have hmN:=qw5 A;have hcN:=qwa A;obtain⟨⟨y,u⟩,hn⟩:∃p,x.next=p:=⟨_,rfl⟩;rw[hn];show Calls _ _ _ _ (qmc A O w y u.info (qax u));have HN:=am hn;clear hn;have H0:=am (FAt.refl h hw);have OK:=am ok;obtain⟨s0,s14,s15,s16,s17,s18,s19,s20,s21,s22,s23,s24,z0,z18,z19,z20,z21,z22,z23,z24⟩:=h.core.fs;clear h hw ok;clear s0 s14 s15 s16 s17 s18 s19 s20 s21 s22 s23 s24 z0 z18 z19 z20 z21 z22 z23 z24;go_enter Tryz.func80,Tryz.ntmps80;refine sq fun K0 J0=>?_
 go_wp2_with fail
 refine J0.out _ _ ?_;clear J0;have BX:qac (Blk (w.alloc (.cells zero8.toArray 167)) w.heap.size 167 zero8):=⟨heap_alloc_new w _⟩;have hb:Below w.heap.size w (w.alloc (.cells zero8.toArray 167)):=qaa (Below.refl _ _) _;have HB:=am (H0.out.below hb);clear hb;change Code.wp _ _ _ _ (w.alloc (.cells zero8.toArray 167));generalize hW:w.alloc (.cells zero8.toArray 167)=W at *;clear hW;have H1:=am (FAt.refl HB.out.lk HB.out.way);obtain⟨B,hB⟩:∃B,w.heap.size=B:=⟨_,rfl⟩;have HBB:=am hB;rw[hB] at BX ⊢;clear hB;by_cases h0:x.s=0∨x.s=1
 ·skip;by_cases h1:x.s=0
  ·have e:x.next=(x,x.w.status x.sends):=by unfold Sig.Link.next;rw[if_pos h0]
   obtain⟨rfl,rfl⟩:=Prod.mk.inj (e.symm.trans HN.out);clear e;have e0:=b_t x.s 0 (by omega)
   try clear h0
   try clear h1
   try clear h2
   try clear h4
   have hfs:=H1.out.lk.core;obtain⟨s0,s14,s15,s16,s17,s18,s19,s20,s21,s22,s23,s24,z0,z18,z19,z20,z21,z22,z23,z24⟩:=hfs.fs;clear hfs;unfold qcu ptr at s17
   try rw[OW.out] at s18
   go_wp2_with fail
   have H2:=am H1.out.drew;refine sr 11 (fun W=>W.cell? ⟨A.s,17,none⟩=some (.iface A.ty (.pointer (some ⟨A.w,0,none⟩)))∧W.cell? ⟨A.s,15,none⟩=some (.pointer (some ⟨A.a,0,none⟩))) [9,10] (show _∧_ from ⟨s17,s15⟩) (fun hY=>?_);refine pu 0 14 ?_;refine pu 1 15 ?_;refine pu 2 16 ?_;refine pu 4 18 ?_;refine pu 5 19 ?_;refine pu 6 20 ?_;refine tk 3 17 hY ?_;refine tk 7 21 hY ?_;refine on_ 8 22 (fun K hK=>?_);refine gs Tryz.func109 #[.pointer (some ⟨A.a,0,none⟩)] ?_
   with_reducible refine(qgc H2.out.lk.core).mono ?_
   rintro e w3 ⟨rfl,rfl⟩;refine⟨_,rfl,?_⟩;refine hK.out _ _ hY (fun hY=>?_);clear hK K;refine nm 22 ?_;refine la_ 9 23 (fun K hK=>?_);refine gs Tryz.func108 #[.iface A.ty (.pointer (some ⟨A.w,0,none⟩)),.int .u8 (x.sends:Nat)] ?_
   with_reducible refine(qh7 H2.out.way OK.out x.sends).mono ?_
   rintro e w4 ⟨rfl,hb⟩;refine⟨_,rfl,?_⟩;have H4:=am (H2.out.below hb);have hr:Blk w4 B 167 zero8:=(hb.block _ BX.out.drew.lt).trans BX.out.drew;have r0:=hr.c 0 rfl;have r1:=hr.c 1 rfl;have r2:=hr.c 2 rfl;have r3:=hr.c 3 rfl;have r4:=hr.c 4 rfl;have r5:=hr.c 5 rfl;have r6:=hr.c 6 rfl;have r7:=hr.c 7 rfl;have rf:=hr.f;have HR:=am hr;clear hr hb;unfold qax;refine hK.out _ _ ?_;clear hK K;refine nm 23 ?_;refine laN 10 (fun K hK=>?_);refine sk ?_;refine hK.out _ _ ?_;clear hK K;refine qav (by kernel_rfl) ?_
   go_wp2_with fail
   exact FAt.ret (p:=2) rfl HB.out (by have:=HBB.out;omega) HR.out H4.out (qhq (qc0 _ _)) rfl rfl
  ·have e:x.next=(x,x.w.status x.sends):=by unfold Sig.Link.next;rw[if_pos h0]
   obtain⟨rfl,rfl⟩:=Prod.mk.inj (e.symm.trans HN.out);clear e;have e0:=b_f x.s 0 (by omega);have e1:=b_t x.s 1 (by omega)
   try clear h0
   try clear h1
   try clear h2
   try clear h4
   have hfs:=H1.out.lk.core;obtain⟨s0,s14,s15,s16,s17,s18,s19,s20,s21,s22,s23,s24,z0,z18,z19,z20,z21,z22,z23,z24⟩:=hfs.fs;clear hfs;unfold qcu ptr at s17
   try rw[OW.out] at s18
   go_wp2_with fail
   have H2:=am H1.out.drew;refine sr 11 (fun W=>W.cell? ⟨A.s,17,none⟩=some (.iface A.ty (.pointer (some ⟨A.w,0,none⟩)))∧W.cell? ⟨A.s,15,none⟩=some (.pointer (some ⟨A.a,0,none⟩))) [9,10] (show _∧_ from ⟨s17,s15⟩) (fun hY=>?_);refine pu 0 14 ?_;refine pu 1 15 ?_;refine pu 2 16 ?_;refine pu 4 18 ?_;refine pu 5 19 ?_;refine pu 6 20 ?_;refine tk 3 17 hY ?_;refine tk 7 21 hY ?_;refine on_ 8 22 (fun K hK=>?_);refine gs Tryz.func109 #[.pointer (some ⟨A.a,0,none⟩)] ?_
   with_reducible refine(qgc H2.out.lk.core).mono ?_
   rintro e w3 ⟨rfl,rfl⟩;refine⟨_,rfl,?_⟩;refine hK.out _ _ hY (fun hY=>?_);clear hK K;refine nm 22 ?_;refine la_ 9 23 (fun K hK=>?_);refine gs Tryz.func108 #[.iface A.ty (.pointer (some ⟨A.w,0,none⟩)),.int .u8 (x.sends:Nat)] ?_
   with_reducible refine(qh7 H2.out.way OK.out x.sends).mono ?_
   rintro e w4 ⟨rfl,hb⟩;refine⟨_,rfl,?_⟩;have H4:=am (H2.out.below hb);have hr:Blk w4 B 167 zero8:=(hb.block _ BX.out.drew.lt).trans BX.out.drew;have r0:=hr.c 0 rfl;have r1:=hr.c 1 rfl;have r2:=hr.c 2 rfl;have r3:=hr.c 3 rfl;have r4:=hr.c 4 rfl;have r5:=hr.c 5 rfl;have r6:=hr.c 6 rfl;have r7:=hr.c 7 rfl;have rf:=hr.f;have HR:=am hr;clear hr hb;unfold qax;refine hK.out _ _ ?_;clear hK K;refine nm 23 ?_;refine laN 10 (fun K hK=>?_);refine sk ?_;refine hK.out _ _ ?_;clear hK K;refine qav (by kernel_rfl) ?_
   go_wp2_with fail
   exact FAt.ret (p:=2) rfl HB.out (by have:=HBB.out;omega) HR.out H4.out (qhq (qc0 _ _)) rfl rfl
 by_cases h2:x.s=2
 ·have e:x.next=(x,x.w.fill):=by unfold Sig.Link.next;rw[if_neg h0,if_pos h2]
  obtain⟨rfl,rfl⟩:=Prod.mk.inj (e.symm.trans HN.out);clear e;have e0:=b_f x.s 0 (by omega);have e1:=b_f x.s 1 (by omega);have e2:=b_t x.s 2 (by omega)
  try clear h0
  try clear h1
  try clear h2
  try clear h4
  have hfs:=H1.out.lk.core;obtain⟨s0,s14,s15,s16,s17,s18,s19,s20,s21,s22,s23,s24,z0,z18,z19,z20,z21,z22,z23,z24⟩:=hfs.fs;clear hfs;unfold qcu ptr at s17
  try rw[OW.out] at s18
  go_wp2_with fail
  refine(qs0 H1.out.way OK.out).mono ?_;rintro e w2 ⟨rfl,hb⟩;have H2:=am (H1.out.below (hb));have hr:Blk w2 B 167 zero8:=(hb.block _ BX.out.lt).trans BX.out;have r0:=hr.c 0 rfl;have r1:=hr.c 1 rfl;have r2:=hr.c 2 rfl;have r3:=hr.c 3 rfl;have r4:=hr.c 4 rfl;have r5:=hr.c 5 rfl;have r6:=hr.c 6 rfl;have r7:=hr.c 7 rfl;have rf:=hr.f;have HR:=am hr;clear hr;clear hb;unfold qax
  go_wp2_with fail
  exact FAt.ret (p:=2) rfl HB.out (by have:=HBB.out;omega) HR.out H2.out (qhq (qkp _)) rfl rfl
 by_cases h4:x.s=4
 ·skip;obtain⟨du,hdu⟩:∃b,x.j.due=b:=⟨_,rfl⟩;have DU:=am hdu;cases du
  ·have e:x.next=({ x with w:=x.w.next.1 }.wait false,x.w.next.2):=by unfold Sig.Link.next;rw[if_neg h0,if_neg h2,if_pos h4,if_neg (by rw[hdu];decide)]
   obtain⟨rfl,rfl⟩:=Prod.mk.inj (e.symm.trans HN.out);clear e;have e0:=b_f x.s 0 (by omega);have e1:=b_f x.s 1 (by omega);have e2:=b_f x.s 2 (by omega);have e4:=b_t x.s 4 (by omega);clear hdu
   try clear h0
   try clear h1
   try clear h2
   try clear h4
   have hfs:=H1.out.lk.core;obtain⟨s0,s14,s15,s16,s17,s18,s19,s20,s21,s22,s23,s24,z0,z18,z19,z20,z21,z22,z23,z24⟩:=hfs.fs;clear hfs;unfold qcu ptr at s17
   try rw[OW.out] at s18
   go_wp2_with fail
   have hd0:=qks H1.out.lk.core;rw[DU.out] at hd0;refine hd0.mono ?_;rintro e w2 ⟨rfl,h',o'⟩;have H2:=am (H1.out.turn h' o' rfl rfl);have HR0:=am (H1.out.blk H2.out BX.out (by decide));clear h' o' hd0;rw[show ({ x with j:={ x.j with due:=false } }:Sig.Link)=x from by rw[←DU.out]] at H2;clear s0 s14 s15 s16 s17 s18 s19 s20 s21 s22 s23 s24 z0 z18 z19 z20 z21 z22 z23 z24;have hfs:=H2.out.lk.core;obtain⟨s0,s14,s15,s16,s17,s18,s19,s20,s21,s22,s23,s24,z0,z18,z19,z20,z21,z22,z23,z24⟩:=hfs.fs;clear hfs;unfold qcu ptr at s17
   go_wp2_with fail
   refine(qwx H2.out.way OK.out).mono ?_;rintro e w3 ⟨vv,rfl,ho,hy,hon⟩;obtain⟨Av,cv,rfl,-,-,-⟩:=ho.slice;have H3:=am (H2.out.wacts hy hon);have HO:=am ho;have HR1:=am (H1.out.blk H3.out BX.out (by decide));clear hy hon ho;clear s0 s14 s15 s16 s17 s18 s19 s20 s21 s22 s23 s24 z0 z18 z19 z20 z21 z22 z23 z24;unfold qax
   go_wp2_with fail
   have hb:Below w3.heap.size w3 (w3.alloc (.cells #[.int .u8 x.w.next.2.bsn,.int .u8 x.w.next.2.fsn,.bool x.w.next.2.bib,.bool x.w.next.2.fib,.int .u8 x.w.next.2.kind,.int .u8 x.w.next.2.status,.bool x.w.next.2.wide,.slice Av x.w.next.2.info.length cv] 167)):=qaa (Below.refl _ _) _;have hr:Blk (w3.alloc (.cells #[.int .u8 x.w.next.2.bsn,.int .u8 x.w.next.2.fsn,.bool x.w.next.2.bib,.bool x.w.next.2.fib,.int .u8 x.w.next.2.kind,.int .u8 x.w.next.2.status,.bool x.w.next.2.wide,.slice Av x.w.next.2.info.length cv] 167)) w3.heap.size 167 [.int .u8 x.w.next.2.bsn,.int .u8 x.w.next.2.fsn,.bool x.w.next.2.bib,.bool x.w.next.2.fib,.int .u8 x.w.next.2.kind,.int .u8 x.w.next.2.status,.bool x.w.next.2.wide,.slice Av x.w.next.2.info.length cv]:=heap_alloc_new w3 _;have H4:=am (H3.out.below hb);have HX:=am hr;have HO4:=am (HO.out.below hb);have HR2:=am (HR1.out.only (qag hb) (fun h=>h));clear hb hr;generalize (w3.alloc (.cells #[.int .u8 x.w.next.2.bsn,.int .u8 x.w.next.2.fsn,.bool x.w.next.2.bib,.bool x.w.next.2.fib,.int .u8 x.w.next.2.kind,.int .u8 x.w.next.2.status,.bool x.w.next.2.wide,.slice Av x.w.next.2.info.length cv] 167))=w4 at *;obtain⟨C,hC⟩:∃C,w3.heap.size=C:=⟨_,rfl⟩;rw[hC] at HX ⊢;clear hC;have hfs:=H4.out.lk.core;obtain⟨s0,s14,s15,s16,s17,s18,s19,s20,s21,s22,s23,s24,z0,z18,z19,z20,z21,z22,z23,z24⟩:=hfs.fs;clear hfs;refine(qe2 H4.out.lk H4.out.way false).mono ?_;rintro e w5 h';obtain⟨_,_,q5⟩:=id h';have ho5:=q5.only;clear q5;have HX5:=am (HX.out.only ho5 (H4.out.wr0 HX.out.typed (by decide)));have HR5:=am (HR2.out.only ho5 (H4.out.wr0 HR2.out.typed (by decide)));have HO5:=am (HO4.out.only ho5 (fun k hk ht=>H4.out.wr0 ht (by decide) hk));obtain⟨rfl,vt5,h''⟩:=H4.out.facts h';have H5:=am h'';clear h' h'' ho5;clear s0 s14 s15 s16 s17 s18 s19 s20 s21 s22 s23 s24 z0 z18 z19 z20 z21 z22 z23 z24;have b0:=HX5.out.c 0 rfl;have b1:=HX5.out.c 1 rfl;have b2:=HX5.out.c 2 rfl;have b3:=HX5.out.c 3 rfl;have b4:=HX5.out.c 4 rfl;have b5:=HX5.out.c 5 rfl;have b6:=HX5.out.c 6 rfl;have b7:=HX5.out.c 7 rfl;have r0:=HR5.out.c 0 rfl;have r1:=HR5.out.c 1 rfl;have r2:=HR5.out.c 2 rfl;have r3:=HR5.out.c 3 rfl;have r4:=HR5.out.c 4 rfl;have r5:=HR5.out.c 5 rfl;have r6:=HR5.out.c 6 rfl;have r7:=HR5.out.c 7 rfl;have rf:=HR5.out.f;have HR:=HR5
   go_wp2_with fail
   exact FAt.ret (p:=2) rfl HB.out (by have:=HBB.out;omega) HR.out H5.out HO5.out rfl rfl
  ·have e:x.next=({ x with j:={ x.j with due:=false } },x.w.status 5):=by unfold Sig.Link.next;rw[if_neg h0,if_neg h2,if_pos h4,if_pos hdu]
   obtain⟨rfl,rfl⟩:=Prod.mk.inj (e.symm.trans HN.out);clear e;have e0:=b_f x.s 0 (by omega);have e1:=b_f x.s 1 (by omega);have e2:=b_f x.s 2 (by omega);have e4:=b_t x.s 4 (by omega);clear hdu
   try clear h0
   try clear h1
   try clear h2
   try clear h4
   have hfs:=H1.out.lk.core;obtain⟨s0,s14,s15,s16,s17,s18,s19,s20,s21,s22,s23,s24,z0,z18,z19,z20,z21,z22,z23,z24⟩:=hfs.fs;clear hfs;unfold qcu ptr at s17
   try rw[OW.out] at s18
   go_wp2_with fail
   have hd0:=qks H1.out.lk.core;rw[DU.out] at hd0;refine hd0.mono ?_;rintro e w2 ⟨rfl,h',o'⟩;have H2:=am (H1.out.turn h' o' rfl rfl);have HR0:=am (H1.out.blk H2.out BX.out (by decide));clear h' o' hd0;clear s0 s14 s15 s16 s17 s18 s19 s20 s21 s22 s23 s24 z0 z18 z19 z20 z21 z22 z23 z24;have hfs:=H2.out.lk.core;obtain⟨s0,s14,s15,s16,s17,s18,s19,s20,s21,s22,s23,s24,z0,z18,z19,z20,z21,z22,z23,z24⟩:=hfs.fs;clear hfs;unfold qcu ptr at s17
   go_wp2_with fail
   refine(qh7 H2.out.way OK.out 5).mono ?_;rintro e w9 ⟨rfl,hb⟩;have H9:=am (H2.out.below hb);have hr:Blk w9 B 167 zero8:=(hb.block _ HR0.out.lt).trans HR0.out;have r0:=hr.c 0 rfl;have r1:=hr.c 1 rfl;have r2:=hr.c 2 rfl;have r3:=hr.c 3 rfl;have r4:=hr.c 4 rfl;have r5:=hr.c 5 rfl;have r6:=hr.c 6 rfl;have r7:=hr.c 7 rfl;have rf:=hr.f;have HR:=am hr;clear hr hb;unfold qax
   go_wp2_with fail
   exact FAt.ret (p:=2) rfl HB.out (by have:=HBB.out;omega) HR.out H9.out (qhq (qc0 _ _)) rfl rfl
 obtain⟨ow,how⟩:∃b,x.o.own=b:=⟨_,rfl⟩;have OW:=am how;cases ow
 ·have e:x.next=(x,x.w.fill):=by unfold Sig.Link.next;rw[if_neg h0,if_neg h2,if_neg h4,if_neg (by rw[how];decide)]
  obtain⟨rfl,rfl⟩:=Prod.mk.inj (e.symm.trans HN.out);clear e;have e0:=b_f x.s 0 (by omega);have e1:=b_f x.s 1 (by omega);have e2:=b_f x.s 2 (by omega);have e4:=b_f x.s 4 (by omega);clear how
  try clear h0
  try clear h1
  try clear h2
  try clear h4
  have hfs:=H1.out.lk.core;obtain⟨s0,s14,s15,s16,s17,s18,s19,s20,s21,s22,s23,s24,z0,z18,z19,z20,z21,z22,z23,z24⟩:=hfs.fs;clear hfs;unfold qcu ptr at s17
  try rw[OW.out] at s18
  go_wp2_with fail
  skip;refine(qs0 H1.out.way OK.out).mono ?_;rintro e w2 ⟨rfl,hb⟩;have H2:=am (H1.out.below (hb));have hr:Blk w2 B 167 zero8:=(hb.block _ BX.out.lt).trans BX.out;have r0:=hr.c 0 rfl;have r1:=hr.c 1 rfl;have r2:=hr.c 2 rfl;have r3:=hr.c 3 rfl;have r4:=hr.c 4 rfl;have r5:=hr.c 5 rfl;have r6:=hr.c 6 rfl;have r7:=hr.c 7 rfl;have rf:=hr.f;have HR:=am hr;clear hr;clear hb;unfold qax
  go_wp2_with fail
  exact FAt.ret (p:=2) rfl HB.out (by have:=HBB.out;omega) HR.out H2.out (qhq (qkp _)) rfl rfl
 ·have e:x.next=(x,x.w.status 4):=by unfold Sig.Link.next;rw[if_neg h0,if_neg h2,if_neg h4,if_pos how]
  obtain⟨rfl,rfl⟩:=Prod.mk.inj (e.symm.trans HN.out);clear e;have e0:=b_f x.s 0 (by omega);have e1:=b_f x.s 1 (by omega);have e2:=b_f x.s 2 (by omega);have e4:=b_f x.s 4 (by omega);clear how
  try clear h0
  try clear h1
  try clear h2
  try clear h4
  have hfs:=H1.out.lk.core;obtain⟨s0,s14,s15,s16,s17,s18,s19,s20,s21,s22,s23,s24,z0,z18,z19,z20,z21,z22,z23,z24⟩:=hfs.fs;clear hfs;unfold qcu ptr at s17
  try rw[OW.out] at s18
  go_wp2_with fail
  have HR0:=BX;refine(qh7 H1.out.way OK.out 4).mono ?_;rintro e w9 ⟨rfl,hb⟩;have H9:=am (H1.out.below hb);have hr:Blk w9 B 167 zero8:=(hb.block _ HR0.out.lt).trans HR0.out;have r0:=hr.c 0 rfl;have r1:=hr.c 1 rfl;have r2:=hr.c 2 rfl;have r3:=hr.c 3 rfl;have r4:=hr.c 4 rfl;have r5:=hr.c 5 rfl;have r6:=hr.c 6 rfl;have r7:=hr.c 7 rfl;have rf:=hr.f;have HR:=am hr;clear hr hb;unfold qax
  go_wp2_with fail
  exact FAt.ret (p:=2) rfl HB.out (by have:=HBB.out;omega) HR.out H9.out (qhq (qc0 _ _)) rfl rfl
theorem qgl (x:Sig.Link):x.jBegin.told=x.told∧x.jBegin.w=x.w:=by
 unfold Sig.Link.jBegin;split <;> exact⟨rfl,rfl⟩
theorem qc8 (x:Sig.Link) (b:Bool):(x.aHurry b).told=x.told∧(x.aHurry b).w=x.w:=by
 unfold Sig.Link.aHurry;simp only;split
 ·unfold Sig.Link.prove;simp only;split <;> exact⟨rfl,rfl⟩
 ·exact⟨rfl,rfl⟩
theorem qll {A:Adr} {O:Nat→Prop} {x:Sig.Link} {vt:Value} {w:World} (h:Lk w A O x vt) (hw:WayAt w A O x.w) (ok:WOk x.w) (hf:x.fails<900000) (hl:x.told.length≤700000) (k:Nat) (p:List Nat) (vp:Value) (hp:Oct w vp p) :
  Calls Tryz.prog 47 #[.pointer (some ⟨A.s,0,none⟩),.agg #[.int .u8 k,vp]] w (qe0 A O w (x.order k p).1 (.int .i64 ((x.order k p).2:Nat))):=by
 have hmH:=qnn A;have hcH:=qhw A;obtain⟨Ap,cp,rfl,-,-,-⟩:=hp.slice;obtain⟨⟨y,r⟩,hy⟩:∃q,x.order k p=q:=⟨_,rfl⟩;rw[hy];have HY:=am hy;clear hy;have H0:=am (FAt.refl h hw);have OK:=am ok;have HF:=am hf;have HL:=am hl;obtain⟨s0,s14,s15,s16,s17,s18,s19,s20,s21,s22,s23,s24,z0,z18,z19,z20,z21,z22,z23,z24⟩:=h.core.fs;clear h hw ok hf hl;clear s0 s14 s15 s16 s17 s18 s19 s20 s21 s22 s23 s24 z0 z18 z19 z20 z21 z22 z23 z24;have HOC:=am hp;clear hp;go_enter Tryz.func47,Tryz.ntmps47;refine sq fun K0 J0=>?_
 go_wp2_with fail
 refine J0.out _ _ ?_;clear J0;have BX:qac (Blk (w.alloc (.cells #[.int .u8 k,.slice Ap p.length cp] 36)) w.heap.size 36 [.int .u8 k,.slice Ap p.length cp]):=⟨heap_alloc_new w _⟩;have hb:Below w.heap.size w (w.alloc (.cells #[.int .u8 k,.slice Ap p.length cp] 36)):=qaa (Below.refl _ _) _;have HB:=am (H0.out.below hb);have OC:=am (HOC.out.only (Only.below (P:=fun _=>False) hb) (fun _ h _=>h));clear hb HOC;generalize hW:w.alloc (.cells #[.int .u8 k,.slice Ap p.length cp] 36)=W at *;clear hW;have H1:=am (FAt.refl HB.out.lk HB.out.way);obtain⟨B,hB⟩:∃B,w.heap.size=B:=⟨_,rfl⟩;rw[hB] at BX ⊢;clear hB;refine sq fun K1 J1=>?_
 go_wp2_with fail
 refine J1.out _ _ ?_;clear J1;refine wp_seq_k (fun K2 k2=>?_);have J2:qac (∀(sv:Bool) (u1_ u2_ u4_ u6_ u7_ u8_ u9_ u10_ u11_ u12_ u13_ u14_ u15_ u16_ u17_ u18_ u19_ u20_ u21_ u22_ u23_ u24_ u25_ u26_ u27_ u28_ u29_ u30_ u31_ u32_ u33_ u34_ u35_ u36_ u37_ u38_ u39_ u40_ u41_ u42_ u43_ u44_ u45_ u46_ u47_ u48_ u49_ u50_ u51_ u52_ u53_ u54_ u55_ u56_ u57_ u58_ u59_ u60_ u61_ u62_ u63_ u64_ u65_ u66_ u67_ u68_ u69_ u70_ u71_ u72_ u73_ u74_ u75_ u76_ u77_ u78_ u79_ u80_ u81_ u82_ u83_ u84_ u85_ u86_ u87_ u88_ u89_ u90_ u91_ u92_ u93_ u94_ u95_ u96_ u97_ u98_ u99_ u100_ u101_ u102_ u103_ u104_ u105_ u106_ u107_ u108_ u109_ u110_ u111_ u112_ u113_ u114_:Value),sv=decide (x.s=4∨x.s=5)→K2 ⟨#[.pointer (some ⟨A.s,0,none⟩),u1_,u2_,.pointer (some ⟨B,0,none⟩),u4_,.bool sv,u6_,u7_,u8_,u9_,u10_,u11_,u12_,u13_,u14_,u15_,u16_,u17_,u18_,u19_,u20_,u21_,u22_,u23_,u24_,u25_,u26_,u27_,u28_,u29_,u30_,u31_,u32_,u33_,u34_,u35_,u36_,u37_,u38_,u39_,u40_,u41_,u42_,u43_,u44_,u45_,u46_,u47_,u48_,u49_,u50_,u51_,u52_,u53_,u54_,u55_,u56_,u57_,u58_,u59_,u60_,u61_,u62_,u63_,u64_,u65_,u66_,u67_,u68_,u69_,u70_,u71_,u72_,u73_,u74_,u75_,u76_,u77_,u78_,u79_,u80_,u81_,u82_,u83_,u84_,u85_,u86_,u87_,u88_,u89_,u90_,u91_,u92_,u93_,u94_,u95_,u96_,u97_,u98_,u99_,u100_,u101_,u102_,u103_,u104_,u105_,u106_,u107_,u108_,u109_,u110_,u111_,u112_,u113_,u114_],[]⟩ W):=by
  refine⟨fun sv u1_ u2_ u4_ u6_ u7_ u8_ u9_ u10_ u11_ u12_ u13_ u14_ u15_ u16_ u17_ u18_ u19_ u20_ u21_ u22_ u23_ u24_ u25_ u26_ u27_ u28_ u29_ u30_ u31_ u32_ u33_ u34_ u35_ u36_ u37_ u38_ u39_ u40_ u41_ u42_ u43_ u44_ u45_ u46_ u47_ u48_ u49_ u50_ u51_ u52_ u53_ u54_ u55_ u56_ u57_ u58_ u59_ u60_ u61_ u62_ u63_ u64_ u65_ u66_ u67_ u68_ u69_ u70_ u71_ u72_ u73_ u74_ u75_ u76_ u77_ u78_ u79_ u80_ u81_ u82_ u83_ u84_ u85_ u86_ u87_ u88_ u89_ u90_ u91_ u92_ u93_ u94_ u95_ u96_ u97_ u98_ u99_ u100_ u101_ u102_ u103_ u104_ u105_ u106_ u107_ u108_ u109_ u110_ u111_ u112_ u113_ u114_ hsv=>k2 _ _ ?_⟩;clear k2;have HSV:=am hsv;clear hsv;by_cases hk:k=1
  ·skip;by_cases h0:x.s=0
   ·have e:x.order k p=(x.begin_,0):=by rw[hk];exact(show (if x.s≠0 then (x,9) else (x.begin_,0))=(x.begin_,0) from if_neg (by omega))
    obtain⟨rfl,rfl⟩:=Prod.mk.inj (e.symm.trans HY.out);clear e;have q1:=b_t k 1 (by omega);have n0:((((x.s:Nat):Int)) != (0))=false:=(by rw[bne_eq_false_iff_eq];omega);clear hk h0;have hfs:=H1.out.lk.core;obtain⟨s0,s14,s15,s16,s17,s18,s19,s20,s21,s22,s23,s24,z0,z18,z19,z20,z21,z22,z23,z24⟩:=hfs.fs;clear hfs;unfold qcu ptr at s17;have b0:=BX.out.c 0 rfl;have b1:=BX.out.c 1 rfl
    go_wp2_with fail
    refine(ql5 H1.out.lk H1.out.way).mono ?_;rintro e w2 h';obtain⟨rfl,vt2,h''⟩:=H1.out.facts h';have H2:=am h'';clear h' h'';go_wp2;go_ret;exact HB.out.facts H2.out.fin
   ·have e:x.order k p=(x,9):=by rw[hk];exact(show (if x.s≠0 then (x,9) else (x.begin_,0))=(x,9) from if_pos (by omega))
    obtain⟨rfl,rfl⟩:=Prod.mk.inj (e.symm.trans HY.out);clear e;have q1:=b_t k 1 (by omega);have n0:((((x.s:Nat):Int)) != (0))=true:=bne_iff_ne.2 (by omega);clear hk h0;have hfs:=H1.out.lk.core;obtain⟨s0,s14,s15,s16,s17,s18,s19,s20,s21,s22,s23,s24,z0,z18,z19,z20,z21,z22,z23,z24⟩:=hfs.fs;clear hfs;unfold qcu ptr at s17;have b0:=BX.out.c 0 rfl;have b1:=BX.out.c 1 rfl
    go_wp2_with fail
    go_wp2;go_ret;exact HB.out.facts H1.out.fin
  have N1:=am hk;clear hk;by_cases hk:k=2
  ·skip;by_cases h0:x.s=0
   ·have e:x.order k p=(x,9):=by rw[hk];exact if_pos h0
    obtain⟨rfl,rfl⟩:=Prod.mk.inj (e.symm.trans HY.out);clear e;have q1:=b_f k 1 (by omega);have q2:=b_t k 2 (by omega);have e0:=b_t x.s 0 (by omega);clear hk h0;have hfs:=H1.out.lk.core;obtain⟨s0,s14,s15,s16,s17,s18,s19,s20,s21,s22,s23,s24,z0,z18,z19,z20,z21,z22,z23,z24⟩:=hfs.fs;clear hfs;unfold qcu ptr at s17;have b0:=BX.out.c 0 rfl;have b1:=BX.out.c 1 rfl
    go_wp2_with fail
    go_wp2;go_ret;exact HB.out.facts H1.out.fin
   ·have e:x.order k p=(x.fail 10,0):=by rw[hk];exact if_neg h0
    obtain⟨rfl,rfl⟩:=Prod.mk.inj (e.symm.trans HY.out);clear e;have q1:=b_f k 1 (by omega);have q2:=b_t k 2 (by omega);have e0:=b_f x.s 0 (by omega);clear hk h0;have hfs:=H1.out.lk.core;obtain⟨s0,s14,s15,s16,s17,s18,s19,s20,s21,s22,s23,s24,z0,z18,z19,z20,z21,z22,z23,z24⟩:=hfs.fs;clear hfs;unfold qcu ptr at s17;have b0:=BX.out.c 0 rfl;have b1:=BX.out.c 1 rfl
    go_wp2_with fail
    refine(qa3 H1.out.lk (by have:=HF.out;omega) (by have:=HL.out;omega) 10).mono ?_;rintro e w2 h';obtain⟨rfl,vt2,h''⟩:=H1.out.acts h' (qdb _ 10);have H2:=am h'';clear h' h'';go_wp2;go_ret;exact HB.out.facts H2.out.fin
  have N2:=am hk;clear hk;by_cases hk:k=3
  ·skip
   ·have e:x.order k p=(x.aHurry true,0):=by rw[hk];exact rfl
    obtain⟨rfl,rfl⟩:=Prod.mk.inj (e.symm.trans HY.out);clear e;have q1:=b_f k 1 (by omega);have q2:=b_f k 2 (by omega);have q3:=b_t k 3 (by omega);clear hk ;have hfs:=H1.out.lk.core;obtain⟨s0,s14,s15,s16,s17,s18,s19,s20,s21,s22,s23,s24,z0,z18,z19,z20,z21,z22,z23,z24⟩:=hfs.fs;clear hfs;unfold qcu ptr at s17;have b0:=BX.out.c 0 rfl;have b1:=BX.out.c 1 rfl
    go_wp2_with fail
    have H2:=am H1.out.drew;refine sr 8 (fun W=>W.cell? ⟨A.s,15,none⟩=some (.pointer (some ⟨A.a,0,none⟩))∧W.cell? ⟨B,0,none⟩=some (.int .u8 k)) [7] (show _∧_ from ⟨s15,b0⟩) (fun hY=>?_);refine pu 0 44 ?_;refine pu 1 45 ?_;refine pu 2 46 ?_;refine pu 4 48 ?_;refine tk 3 47 hY ?_;refine tk 5 49 hY ?_;refine pu 6 50 ?_;refine la_ 7 51 (fun K hK=>?_);refine gs Tryz.func62 #[.pointer (some ⟨A.a,0,none⟩),.bool true] ?_
    with_reducible refine(qfu H2.out.lk.core true).mono ?_
    rintro e w3 ⟨rfl,h',o'⟩;refine⟨_,rfl,?_⟩;have H3:=am (H2.out.turn h' o' (qc8 x _).1 (qc8 x _).2);clear h' o';refine hK.out _ _ ?_;clear hK K;refine nm 51 ?_;refine qav (by kernel_rfl) ?_;go_wp2;go_ret;exact HB.out.facts H3.out.fin
  have N3:=am hk;clear hk;by_cases hk:k=4
  ·skip
   ·have e:x.order k p=(x.aHurry false,0):=by rw[hk];exact rfl
    obtain⟨rfl,rfl⟩:=Prod.mk.inj (e.symm.trans HY.out);clear e;have q1:=b_f k 1 (by omega);have q2:=b_f k 2 (by omega);have q3:=b_f k 3 (by omega);have q4:=b_t k 4 (by omega);clear hk ;have hfs:=H1.out.lk.core;obtain⟨s0,s14,s15,s16,s17,s18,s19,s20,s21,s22,s23,s24,z0,z18,z19,z20,z21,z22,z23,z24⟩:=hfs.fs;clear hfs;unfold qcu ptr at s17;have b0:=BX.out.c 0 rfl;have b1:=BX.out.c 1 rfl
    go_wp2_with fail
    have H2:=am H1.out.drew;refine sr 8 (fun W=>W.cell? ⟨A.s,15,none⟩=some (.pointer (some ⟨A.a,0,none⟩))∧W.cell? ⟨B,0,none⟩=some (.int .u8 k)) [7] (show _∧_ from ⟨s15,b0⟩) (fun hY=>?_);refine pu 0 44 ?_;refine pu 1 45 ?_;refine pu 2 46 ?_;refine pu 4 48 ?_;refine tk 3 47 hY ?_;refine tk 5 49 hY ?_;refine pu 6 50 ?_;refine la_ 7 51 (fun K hK=>?_);refine gs Tryz.func62 #[.pointer (some ⟨A.a,0,none⟩),.bool false] ?_
    with_reducible refine(qfu H2.out.lk.core false).mono ?_
    rintro e w3 ⟨rfl,h',o'⟩;refine⟨_,rfl,?_⟩;have H3:=am (H2.out.turn h' o' (qc8 x _).1 (qc8 x _).2);clear h' o';refine hK.out _ _ ?_;clear hK K;refine nm 51 ?_;refine qav (by kernel_rfl) ?_;go_wp2;go_ret;exact HB.out.facts H3.out.fin
  have N4:=am hk;clear hk;by_cases hk:k=5
  ·skip;by_cases hs:x.s=4∨x.s=5
   ·have e:x.order k p=({ x with w:=x.w.setHold (x.w.hold.put p).1 },(x.w.hold.put p).2):=by rw[hk];exact if_pos hs
    obtain⟨rfl,rfl⟩:=Prod.mk.inj (e.symm.trans HY.out);clear e;have q1:=b_f k 1 (by omega);have q2:=b_f k 2 (by omega);have q3:=b_f k 3 (by omega);have q4:=b_f k 4 (by omega);have q5:=b_t k 5 (by omega);obtain rfl:sv=true:=HSV.out.trans (decide_eq_true hs);clear hk hs;have hfs:=H1.out.lk.core;obtain⟨s0,s14,s15,s16,s17,s18,s19,s20,s21,s22,s23,s24,z0,z18,z19,z20,z21,z22,z23,z24⟩:=hfs.fs;clear hfs;unfold qcu ptr at s17;have b0:=BX.out.c 0 rfl;have b1:=BX.out.c 1 rfl
    go_wp2_with fail
    have H2:=am H1.out.drew;obtain⟨vs,vn,hh⟩:=H2.out.way.hold;have HC:=am (hPut hh OK.out.hold (OC.out.below (qaf (Below.refl _ _))));clear hh;refine sr 9 (fun W=>W.cell? ⟨A.s,17,none⟩=some (.iface A.ty (.pointer (some ⟨A.w,0,none⟩)))∧W.cell? ⟨B,1,none⟩=some (.slice Ap p.length cp)) [7] (show _∧_ from ⟨s17,b1⟩) (fun hY=>?_);refine pu 0 56 ?_;refine pu 1 57 ?_;refine pu 2 58 ?_;refine pu 5 61 ?_;refine tk 3 59 hY ?_;refine tk 6 62 hY ?_;refine on_ 4 60 (fun K hK=>?_);refine qn4 A.fHold #[.pointer (some ⟨A.w,0,none⟩)] (by rfl) rfl ?_ ?_
    ·go_simp
     try rfl
    with_reducible refine(qfv H2.out.way).mono ?_
    rintro e w3 ⟨rfl,rfl⟩;refine⟨_,rfl,?_⟩;refine hK.out _ _ hY (fun hY=>?_);clear hK K;refine nm 60 ?_;refine la_ 7 63 (fun K hK=>?_);refine gs Tryz.func63 #[.pointer (some ⟨A.h,0,none⟩),.slice Ap p.length cp] ?_
    with_reducible refine(HC.out).mono ?_
    rintro e w4 ⟨rfl,hq⟩;refine⟨_,rfl,?_⟩;obtain⟨-,hy,ho⟩:=H2.out.way.hacts (r:=.tuple #[]) ⟨rfl,hq⟩;have H4:=am (H2.out.wacts hy ho);clear hq hy ho HC;refine hK.out _ _ ?_;clear hK K;refine nm 63 ?_;refine pu 8 4 ?_;refine qav (by kernel_rfl) ?_;go_wp2;go_ret;exact HB.out.facts H4.out.fin
   ·have e:x.order k p=(x,12):=by rw[hk];exact if_neg hs
    obtain⟨rfl,rfl⟩:=Prod.mk.inj (e.symm.trans HY.out);clear e;have q1:=b_f k 1 (by omega);have q2:=b_f k 2 (by omega);have q3:=b_f k 3 (by omega);have q4:=b_f k 4 (by omega);have q5:=b_t k 5 (by omega);obtain rfl:sv=false:=HSV.out.trans (decide_eq_false hs);clear hk hs;have hfs:=H1.out.lk.core;obtain⟨s0,s14,s15,s16,s17,s18,s19,s20,s21,s22,s23,s24,z0,z18,z19,z20,z21,z22,z23,z24⟩:=hfs.fs;clear hfs;unfold qcu ptr at s17;have b0:=BX.out.c 0 rfl;have b1:=BX.out.c 1 rfl
    go_wp2_with fail
    go_wp2;go_ret;exact HB.out.facts H1.out.fin
  have N5:=am hk;clear hk;by_cases hk:k=6
  ·skip
   ·have e:x.order k p=(x.local_ true,0):=by rw[hk];exact rfl
    obtain⟨rfl,rfl⟩:=Prod.mk.inj (e.symm.trans HY.out);clear e;have q1:=b_f k 1 (by omega);have q2:=b_f k 2 (by omega);have q3:=b_f k 3 (by omega);have q4:=b_f k 4 (by omega);have q5:=b_f k 5 (by omega);have q6:=b_t k 6 (by omega);clear hk ;have hfs:=H1.out.lk.core;obtain⟨s0,s14,s15,s16,s17,s18,s19,s20,s21,s22,s23,s24,z0,z18,z19,z20,z21,z22,z23,z24⟩:=hfs.fs;clear hfs;unfold qcu ptr at s17;have b0:=BX.out.c 0 rfl;have b1:=BX.out.c 1 rfl
    go_wp2_with fail
    refine(qgk H1.out.lk H1.out.way true).mono ?_;rintro e w2 h';obtain⟨rfl,vt2,h''⟩:=H1.out.facts h';have H2:=am h'';clear h' h'';go_wp2;go_ret;exact HB.out.facts H2.out.fin
  have N6:=am hk;clear hk;by_cases hk:k=7
  ·skip
   ·have e:x.order k p=(x.local_ false,0):=by rw[hk];exact rfl
    obtain⟨rfl,rfl⟩:=Prod.mk.inj (e.symm.trans HY.out);clear e;have q1:=b_f k 1 (by omega);have q2:=b_f k 2 (by omega);have q3:=b_f k 3 (by omega);have q4:=b_f k 4 (by omega);have q5:=b_f k 5 (by omega);have q6:=b_f k 6 (by omega);have q7:=b_t k 7 (by omega);clear hk ;have hfs:=H1.out.lk.core;obtain⟨s0,s14,s15,s16,s17,s18,s19,s20,s21,s22,s23,s24,z0,z18,z19,z20,z21,z22,z23,z24⟩:=hfs.fs;clear hfs;unfold qcu ptr at s17;have b0:=BX.out.c 0 rfl;have b1:=BX.out.c 1 rfl
    go_wp2_with fail
    refine(qgk H1.out.lk H1.out.way false).mono ?_;rintro e w2 h';obtain⟨rfl,vt2,h''⟩:=H1.out.facts h';have H2:=am h'';clear h' h'';go_wp2;go_ret;exact HB.out.facts H2.out.fin
  have N7:=am hk;clear hk;by_cases hk:k=8
  ·skip
   ·have e:x.order k p=({ x with w:=x.w.setHold { x.w.hold with next:=[] } },0):=by rw[hk];exact rfl
    obtain⟨rfl,rfl⟩:=Prod.mk.inj (e.symm.trans HY.out);clear e;have q1:=b_f k 1 (by omega);have q2:=b_f k 2 (by omega);have q3:=b_f k 3 (by omega);have q4:=b_f k 4 (by omega);have q5:=b_f k 5 (by omega);have q6:=b_f k 6 (by omega);have q7:=b_f k 7 (by omega);have q8:=b_t k 8 (by omega);clear hk ;have hfs:=H1.out.lk.core;obtain⟨s0,s14,s15,s16,s17,s18,s19,s20,s21,s22,s23,s24,z0,z18,z19,z20,z21,z22,z23,z24⟩:=hfs.fs;clear hfs;unfold qcu ptr at s17;have b0:=BX.out.c 0 rfl;have b1:=BX.out.c 1 rfl
    go_wp2_with fail
    refine(qfv H1.out.way).mono ?_;rintro e w2 ⟨rfl,rfl⟩
    go_wp2_with fail
    obtain⟨vs,vn,hh⟩:=H1.out.way.hold;refine(qv1 hh).mono ?_;rintro e w2 ⟨rfl,hq⟩;obtain⟨-,hy,ho⟩:=H1.out.way.hacts (r:=.tuple #[]) ⟨rfl,hq⟩;have H2:=am (H1.out.wacts hy ho);clear hq hy ho hh;go_wp2;go_ret;exact HB.out.facts H2.out.fin
  have N8:=am hk;clear hk;by_cases hk:k=9
  ·skip;obtain⟨⟨oo,okk⟩,hr⟩:∃p,x.o.continue=p:=⟨_,rfl⟩;have hc:=qgj x.o;rw[hr] at hc;unfold qod at hc;have HC:=am hc;clear hc;have hu:∀p,x.order 9 p=(if okk then (Sig.Link.resume { x with o:=oo },0) else ({ x with o:=oo },9)):=fun p=>by show (let r:=x.o.continue;if r.2 then (Sig.Link.resume { x with o:=r.1 },0) else ({ x with o:=r.1 },9))=_;rw[hr]
   clear hr;cases okk
   ·have e:x.order k p=({ x with o:=oo },9):=by rw[hk];exact hu p
    obtain⟨rfl,rfl⟩:=Prod.mk.inj (e.symm.trans HY.out);clear e;have q1:=b_f k 1 (by omega);have q2:=b_f k 2 (by omega);have q3:=b_f k 3 (by omega);have q4:=b_f k 4 (by omega);have q5:=b_f k 5 (by omega);have q6:=b_f k 6 (by omega);have q7:=b_f k 7 (by omega);have q8:=b_f k 8 (by omega);have q9:=b_t k 9 (by omega);clear hk hu;have hfs:=H1.out.lk.core;obtain⟨s0,s14,s15,s16,s17,s18,s19,s20,s21,s22,s23,s24,z0,z18,z19,z20,z21,z22,z23,z24⟩:=hfs.fs;clear hfs;unfold qcu ptr at s17;have b0:=BX.out.c 0 rfl;have b1:=BX.out.c 1 rfl
    go_wp2_with fail
    refine(HC.out _).mono ?_;rintro e w2 ⟨rfl,hb⟩;have H2:=am (H1.out.below (hb));clear hb;clear s0 s14 s15 s16 s17 s18 s19 s20 s21 s22 s23 s24 z0 z18 z19 z20 z21 z22 z23 z24 b0 b1;have hfs:=H2.out.lk.core;obtain⟨s0,s14,s15,s16,s17,s18,s19,s20,s21,s22,s23,s24,z0,z18,z19,z20,z21,z22,z23,z24⟩:=hfs.fs;clear hfs
    go_wp2_with fail
    have c':=H2.out.lk.core.up1 4 (.bool oo.own) ⟨oo.own,x.o.their,x.o.wait⟩ ⟨x.leak.n,x.leak.seen⟩ vt x.fails rfl;have c':=c'.up1 5 (.bool oo.their) ⟨oo.own,oo.their,x.o.wait⟩ ⟨x.leak.n,x.leak.seen⟩ vt x.fails rfl;have c':=c'.up1 6 (.bool oo.wait) ⟨oo.own,oo.their,oo.wait⟩ ⟨x.leak.n,x.leak.seen⟩ vt x.fails rfl;have o':=((((Only.refl (Own A) w2).trans (qaz 18 (.bool oo.own))).trans (qaz 19 (.bool oo.their))).trans (qaz 20 (.bool oo.wait)));generalize (((w2.setCell ⟨A.s,18,none⟩ (.bool oo.own)).setCell ⟨A.s,19,none⟩ (.bool oo.their)).setCell ⟨A.s,20,none⟩ (.bool oo.wait))=w3 at c' o' ⊢;have H3:qac (FAt A (qbe O w W) W (up x x.s ⟨oo.own,oo.their,oo.wait⟩ ⟨x.leak.n,x.leak.seen⟩ x.fails) w3 vt):=⟨H2.out.turn c' o' rfl rfl⟩;have OW3:=am o';clear c' o';go_wp2;go_ret;exact HB.out.facts H3.out.fin
   ·have e:x.order k p=(Sig.Link.resume { x with o:=oo },0):=by rw[hk];exact hu p
    obtain⟨rfl,rfl⟩:=Prod.mk.inj (e.symm.trans HY.out);clear e;have q1:=b_f k 1 (by omega);have q2:=b_f k 2 (by omega);have q3:=b_f k 3 (by omega);have q4:=b_f k 4 (by omega);have q5:=b_f k 5 (by omega);have q6:=b_f k 6 (by omega);have q7:=b_f k 7 (by omega);have q8:=b_f k 8 (by omega);have q9:=b_t k 9 (by omega);clear hk hu;have hfs:=H1.out.lk.core;obtain⟨s0,s14,s15,s16,s17,s18,s19,s20,s21,s22,s23,s24,z0,z18,z19,z20,z21,z22,z23,z24⟩:=hfs.fs;clear hfs;unfold qcu ptr at s17;have b0:=BX.out.c 0 rfl;have b1:=BX.out.c 1 rfl
    go_wp2_with fail
    refine(HC.out _).mono ?_;rintro e w2 ⟨rfl,hb⟩;have H2:=am (H1.out.below (hb));clear hb;clear s0 s14 s15 s16 s17 s18 s19 s20 s21 s22 s23 s24 z0 z18 z19 z20 z21 z22 z23 z24 b0 b1;have hfs:=H2.out.lk.core;obtain⟨s0,s14,s15,s16,s17,s18,s19,s20,s21,s22,s23,s24,z0,z18,z19,z20,z21,z22,z23,z24⟩:=hfs.fs;clear hfs
    go_wp2_with fail
    have c':=H2.out.lk.core.up1 4 (.bool oo.own) ⟨oo.own,x.o.their,x.o.wait⟩ ⟨x.leak.n,x.leak.seen⟩ vt x.fails rfl;have c':=c'.up1 5 (.bool oo.their) ⟨oo.own,oo.their,x.o.wait⟩ ⟨x.leak.n,x.leak.seen⟩ vt x.fails rfl;have c':=c'.up1 6 (.bool oo.wait) ⟨oo.own,oo.their,oo.wait⟩ ⟨x.leak.n,x.leak.seen⟩ vt x.fails rfl;have o':=((((Only.refl (Own A) w2).trans (qaz 18 (.bool oo.own))).trans (qaz 19 (.bool oo.their))).trans (qaz 20 (.bool oo.wait)));generalize (((w2.setCell ⟨A.s,18,none⟩ (.bool oo.own)).setCell ⟨A.s,19,none⟩ (.bool oo.their)).setCell ⟨A.s,20,none⟩ (.bool oo.wait))=w3 at c' o' ⊢;have H3:qac (FAt A (qbe O w W) W (up x x.s ⟨oo.own,oo.their,oo.wait⟩ ⟨x.leak.n,x.leak.seen⟩ x.fails) w3 vt):=⟨H2.out.turn c' o' rfl rfl⟩;have OW3:=am o';clear c' o';clear s0 s14 s15 s16 s17 s18 s19 s20 s21 s22 s23 s24 z0 z18 z19 z20 z21 z22 z23 z24;have hfs:=H3.out.lk.core;obtain⟨s0,s14,s15,s16,s17,s18,s19,s20,s21,s22,s23,s24,z0,z18,z19,z20,z21,z22,z23,z24⟩:=hfs.fs;clear hfs;refine(qbv H3.out.lk H3.out.way).mono ?_;rintro e w4 h';obtain⟨rfl,vt4,h''⟩:=H3.out.facts h';have H4:=am h'';clear h' h'';go_wp2;go_ret;exact HB.out.facts H4.out.fin
  have N9:=am hk;clear hk;by_cases hk:k=10
  ·skip;by_cases hs:x.s=4∨x.s=5
   ·have e:x.order k p=(x.jBegin,0):=by rw[hk];exact if_pos hs
    obtain⟨rfl,rfl⟩:=Prod.mk.inj (e.symm.trans HY.out);clear e;have q1:=b_f k 1 (by omega);have q2:=b_f k 2 (by omega);have q3:=b_f k 3 (by omega);have q4:=b_f k 4 (by omega);have q5:=b_f k 5 (by omega);have q6:=b_f k 6 (by omega);have q7:=b_f k 7 (by omega);have q8:=b_f k 8 (by omega);have q9:=b_f k 9 (by omega);have q10:=b_t k 10 (by omega);obtain rfl:sv=true:=HSV.out.trans (decide_eq_true hs);clear hk hs;have hfs:=H1.out.lk.core;obtain⟨s0,s14,s15,s16,s17,s18,s19,s20,s21,s22,s23,s24,z0,z18,z19,z20,z21,z22,z23,z24⟩:=hfs.fs;clear hfs;unfold qcu ptr at s17;have b0:=BX.out.c 0 rfl;have b1:=BX.out.c 1 rfl
    go_wp2_with fail
    refine(qkn H1.out.lk.core).mono ?_;rintro e w2 ⟨rfl,h',o'⟩;have H2:=am (H1.out.turn h' o' (qgl x).1 (qgl x).2);clear h' o';go_wp2;go_ret;exact HB.out.facts H2.out.fin
   ·have e:x.order k p=(x,9):=by rw[hk];exact if_neg hs
    obtain⟨rfl,rfl⟩:=Prod.mk.inj (e.symm.trans HY.out);clear e;have q1:=b_f k 1 (by omega);have q2:=b_f k 2 (by omega);have q3:=b_f k 3 (by omega);have q4:=b_f k 4 (by omega);have q5:=b_f k 5 (by omega);have q6:=b_f k 6 (by omega);have q7:=b_f k 7 (by omega);have q8:=b_f k 8 (by omega);have q9:=b_f k 9 (by omega);have q10:=b_t k 10 (by omega);obtain rfl:sv=false:=HSV.out.trans (decide_eq_false hs);clear hk hs;have hfs:=H1.out.lk.core;obtain⟨s0,s14,s15,s16,s17,s18,s19,s20,s21,s22,s23,s24,z0,z18,z19,z20,z21,z22,z23,z24⟩:=hfs.fs;clear hfs;unfold qcu ptr at s17;have b0:=BX.out.c 0 rfl;have b1:=BX.out.c 1 rfl
    go_wp2_with fail
    go_wp2;go_ret;exact HB.out.facts H1.out.fin
  have N10:=am hk;clear hk;by_cases hk:k=11
  ·skip;by_cases hs:x.s=4∨x.s=5
   ·have e:x.order k p=(x.jEnd,0):=by rw[hk];exact if_pos hs
    obtain⟨rfl,rfl⟩:=Prod.mk.inj (e.symm.trans HY.out);clear e;have q1:=b_f k 1 (by omega);have q2:=b_f k 2 (by omega);have q3:=b_f k 3 (by omega);have q4:=b_f k 4 (by omega);have q5:=b_f k 5 (by omega);have q6:=b_f k 6 (by omega);have q7:=b_f k 7 (by omega);have q8:=b_f k 8 (by omega);have q9:=b_f k 9 (by omega);have q10:=b_f k 10 (by omega);have q11:=b_t k 11 (by omega);obtain rfl:sv=true:=HSV.out.trans (decide_eq_true hs);clear hk hs;have hfs:=H1.out.lk.core;obtain⟨s0,s14,s15,s16,s17,s18,s19,s20,s21,s22,s23,s24,z0,z18,z19,z20,z21,z22,z23,z24⟩:=hfs.fs;clear hfs;unfold qcu ptr at s17;have b0:=BX.out.c 0 rfl;have b1:=BX.out.c 1 rfl
    go_wp2_with fail
    refine(qnr H1.out.lk.core).mono ?_;rintro e w2 ⟨rfl,h',o'⟩;have H2:=am (H1.out.turn h' o' rfl rfl);clear h' o';go_wp2;go_ret;exact HB.out.facts H2.out.fin
   ·have e:x.order k p=(x,9):=by rw[hk];exact if_neg hs
    obtain⟨rfl,rfl⟩:=Prod.mk.inj (e.symm.trans HY.out);clear e;have q1:=b_f k 1 (by omega);have q2:=b_f k 2 (by omega);have q3:=b_f k 3 (by omega);have q4:=b_f k 4 (by omega);have q5:=b_f k 5 (by omega);have q6:=b_f k 6 (by omega);have q7:=b_f k 7 (by omega);have q8:=b_f k 8 (by omega);have q9:=b_f k 9 (by omega);have q10:=b_f k 10 (by omega);have q11:=b_t k 11 (by omega);obtain rfl:sv=false:=HSV.out.trans (decide_eq_false hs);clear hk hs;have hfs:=H1.out.lk.core;obtain⟨s0,s14,s15,s16,s17,s18,s19,s20,s21,s22,s23,s24,z0,z18,z19,z20,z21,z22,z23,z24⟩:=hfs.fs;clear hfs;unfold qcu ptr at s17;have b0:=BX.out.c 0 rfl;have b1:=BX.out.c 1 rfl
    go_wp2_with fail
    go_wp2;go_ret;exact HB.out.facts H1.out.fin
  have N11:=am hk;have e:x.order k p=(x,1):=by have n1:=N1.out;have n2:=N2.out;have n3:=N3.out;have n4:=N4.out;have n5:=N5.out;have n6:=N6.out;have n7:=N7.out;have n8:=N8.out;have n9:=N9.out;have n10:=N10.out;have n11:=N11.out;unfold Sig.Link.order;rw[if_neg n1,if_neg n2,if_neg (by omega),if_neg n5,if_neg (by omega),if_neg n8,if_neg n9,if_neg (by omega)]
  obtain⟨rfl,rfl⟩:=Prod.mk.inj (e.symm.trans HY.out);clear e hk;have q1:(((k:Nat):Int)==1)=false:=beq_eq_false_iff_ne.2 (by have:=N1.out;omega);have q2:(((k:Nat):Int)==2)=false:=beq_eq_false_iff_ne.2 (by have:=N2.out;omega);have q3:(((k:Nat):Int)==3)=false:=beq_eq_false_iff_ne.2 (by have:=N3.out;omega);have q4:(((k:Nat):Int)==4)=false:=beq_eq_false_iff_ne.2 (by have:=N4.out;omega);have q5:(((k:Nat):Int)==5)=false:=beq_eq_false_iff_ne.2 (by have:=N5.out;omega);have q6:(((k:Nat):Int)==6)=false:=beq_eq_false_iff_ne.2 (by have:=N6.out;omega);have q7:(((k:Nat):Int)==7)=false:=beq_eq_false_iff_ne.2 (by have:=N7.out;omega);have q8:(((k:Nat):Int)==8)=false:=beq_eq_false_iff_ne.2 (by have:=N8.out;omega);have q9:(((k:Nat):Int)==9)=false:=beq_eq_false_iff_ne.2 (by have:=N9.out;omega);have q10:(((k:Nat):Int)==10)=false:=beq_eq_false_iff_ne.2 (by have:=N10.out;omega);have q11:(((k:Nat):Int)==11)=false:=beq_eq_false_iff_ne.2 (by have:=N11.out;omega);have hfs:=H1.out.lk.core;obtain⟨s0,s14,s15,s16,s17,s18,s19,s20,s21,s22,s23,s24,z0,z18,z19,z20,z21,z22,z23,z24⟩:=hfs.fs;clear hfs;unfold qcu ptr at s17;have b0:=BX.out.c 0 rfl;have b1:=BX.out.c 1 rfl
  go_wp2_with fail
  go_wp2;go_ret;exact HB.out.facts H1.out.fin
 clear k2;have hfs:=H1.out.lk.core;obtain⟨s0,s14,s15,s16,s17,s18,s19,s20,s21,s22,s23,s24,z0,z18,z19,z20,z21,z22,z23,z24⟩:=hfs.fs;clear hfs;by_cases h4:x.s=4
 ·skip;have e4:=b_t x.s 4 (by omega)
  go_wp2_with fail
  exact J2.out true _ _ _ _ _ _ _ _ _ _ _ _ _ _ _ _ _ _ _ _ _ _ _ _ _ _ _ _ _ _ _ _ _ _ _ _ _ _ _ _ _ _ _ _ _ _ _ _ _ _ _ _ _ _ _ _ _ _ _ _ _ _ _ _ _ _ _ _ _ _ _ _ _ _ _ _ _ _ _ _ _ _ _ _ _ _ _ _ _ _ _ _ _ _ _ _ _ _ _ _ _ _ _ _ _ _ _ _ _ _ _ _ (by rw[decide_eq_true (Or.inl h4)])
 by_cases h5:x.s=5
 ·skip;have e4:=b_f x.s 4 (by omega);have e5:=b_t x.s 5 (by omega)
  go_wp2_with fail
  exact J2.out true _ _ _ _ _ _ _ _ _ _ _ _ _ _ _ _ _ _ _ _ _ _ _ _ _ _ _ _ _ _ _ _ _ _ _ _ _ _ _ _ _ _ _ _ _ _ _ _ _ _ _ _ _ _ _ _ _ _ _ _ _ _ _ _ _ _ _ _ _ _ _ _ _ _ _ _ _ _ _ _ _ _ _ _ _ _ _ _ _ _ _ _ _ _ _ _ _ _ _ _ _ _ _ _ _ _ _ _ _ _ _ _ (by rw[decide_eq_true (Or.inr h5)])
 have e4:=b_f x.s 4 (by omega);have e5:=b_f x.s 5 (by omega)
 go_wp2_with fail
 exact J2.out false _ _ _ _ _ _ _ _ _ _ _ _ _ _ _ _ _ _ _ _ _ _ _ _ _ _ _ _ _ _ _ _ _ _ _ _ _ _ _ _ _ _ _ _ _ _ _ _ _ _ _ _ _ _ _ _ _ _ _ _ _ _ _ _ _ _ _ _ _ _ _ _ _ _ _ _ _ _ _ _ _ _ _ _ _ _ _ _ _ _ _ _ _ _ _ _ _ _ _ _ _ _ _ _ _ _ _ _ _ _ _ _ (by rw[decide_eq_false (by omega)])
end Go.Proofs.YtjbijdmcceloaaaGreat.Top
