/- Part of the proof of topServes_holds. No condition. -/
import Derived.Maps.Own
import Derived.Test.YtjbijdmcceloaaaGreatQS19
set_option linter.unusedVariables false
set_option linter.unusedSimpArgs false
set_option maxHeartbeats 80000000
set_option maxRecDepth 100000
namespace Go.Proofs.YtjbijdmcceloaaaGreat.Top
open Go Go.RowKit Go.Proofs.YtjbijdmcceloaaaGreat Go.Proofs.YtjbijdmcceloaaaGreatW.PrintWords Go.Proofs.YtjbijdmcceloaaaGreatW.PrintLast Go.Proofs.YtjbijdmcceloaaaGreatW.PrintMore
theorem qpo:Maps.Keyed Tryz.prog 3:=Maps.int_keyed (q:=.i64) (by kernel_rfl)
theorem qw6 (x:Int) (h:-9223372036854775808≤x∧x≤9223372036854775807):keyOf Tryz.prog 3 (.int .i64 x)=some (.int .i64 x):=Maps.keyOf_int_mk (by kernel_rfl) (by simp only[Lit.wf,Bool.and_eq_true,decide_eq_true_eq];exact h)
theorem qok:Tryz.prog.underlying 141=some (.map 3 23):=by kernel_rfl
theorem qu3 (w:World):(zeroValue 23).run Tryz.prog w=.ok (.slice none 0 0) w:=by kernel_rfl
structure Full (w:World) (R:Value→Option (DataW Unit×List MemPlace)):Prop where
 yes:∀v l,Oct w v l→R v=some (.nil,[])
 no:∀v y,R v=some y→y=(.nil,[])∧∃l,Oct w v l
theorem qjc (w:World):∃R,Full w R :=
 ⟨fun v=>@ite _ (∃l,Oct w v l) (Classical.propDecidable _) (some (.nil,[])) none,fun v l h=>if_pos ⟨l,h⟩,fun v y h=>by
  by_cases hq:∃l,Oct w v l
  ·rw[if_pos hq] at h;exact⟨(Option.some.inj h).symm,hq⟩
  ·rw[if_neg hq] at h;cases h⟩
def MapOk (w:World) (b n:Nat):Prop:=∃R D,Full w R∧w.ownsMap Tryz.prog 3 R b n D
section
variable {w w':World} {b n:Nat} {Q:Nat→Prop}
theorem MapOk.lt (h:MapOk w b n):b<w.heap.size:=by obtain⟨R,D,_,h⟩:=h;exact h.lt
theorem MapOk.not_cells (h:MapOk w b n) {t:Nat}:¬Typed w b t:=by
 obtain⟨R,D,_,es,clock,hb,_⟩:=h;rintro⟨cs,fr,hc⟩;rw[hc] at hb;cases hb
theorem MapOk.mono {n':Nat} (h:MapOk w b n) (hn:n≤n'):MapOk w b n':=by obtain⟨R,D,f,h⟩:=h;exact⟨R,D,f,h.mono hn⟩
theorem MapOk.made (w:World):MapOk (w.alloc (.map #[] 0)) w.heap.size 0:=by
 obtain⟨R,f⟩:=qjc (w.alloc (.map #[] 0));exact⟨R,_,f,World.ownsMap_made w _ _ _⟩
theorem MapOk.only (h:MapOk w b n) (ho:Only Q w w') (hq:¬Q b) (h5:qca Q w):MapOk w' b n:=by
 have hlt:=h.lt;obtain⟨R,D,f,es,clock,hb,F,hs,hD⟩:=h;obtain⟨R',f'⟩:=qjc w';obtain⟨F',e1,_⟩:=F.stay (R':=R') (fun x _ z hz=>by
  obtain⟨e,l,hl⟩:=f.no _ _ hz;rw[e];exact f'.yes _ l (hl.only ho h5))
 exact⟨R',D,f',es,clock,(ho.block b hlt hq).trans hb,F',hs,by rw[hD,e1]⟩
theorem qnl (h:w.grownBy w' (some b)):Only (·=b) w w':=⟨h.os,h.tape,h.output,h.size,fun k hk hn=>h.block k hk (fun e=>hn (Option.some.inj e))⟩
theorem MapOk.update (h:MapOk w b n) (hn:n≤1000000000) {k:Int} (hk:-9223372036854775808≤k∧k≤9223372036854775807) {v:Value} {l:List Nat} (hv:Oct w v l) :
  ∃w',(Instr.mapUpdate 141 (.map (some b)) (.int .i64 k) v).run Tryz.prog w=.ok () w'∧MapOk w' b (n+1)∧Only (·=b) w w':=by
 have hnc:¬Typed w b 5:=h.not_cells;obtain⟨R,D,f,h⟩:=h;obtain⟨w',hr,ho,hg⟩:=h.update qpo qok (by simp only[maxLen];omega) (qw6 k hk) (f.yes v l hv);have hon:=qnl hg;obtain⟨R',f'⟩:=qjc w';obtain⟨es,clock,hb,F,hs,hD⟩:=ho;obtain⟨F',e1,_⟩:=F.stay (R':=R') (fun x _ z hz=>by
  obtain⟨e,l,hl⟩:=f.no _ _ hz;rw[e];exact f'.yes _ l (hl.only hon (fun j hj ht=>hnc (hj▸ht))))
 exact⟨w',hr,⟨R',_,f',es,clock,hb,F',hs,rfl⟩,hon⟩
theorem MapOk.look (h:MapOk w b n) {k:Int} (hk:-9223372036854775808≤k∧k≤9223372036854775807) :
  ∃v ok l,(Instr.lookup 141 (.map (some b)) (.int .i64 k) true).run Tryz.prog w=.ok (.tuple #[v,.bool ok]) w∧Oct w v l:=by
 obtain⟨R,D,f,es,clock,hb,F,hs,hD⟩:=h;rcases Maps.fit_look true qpo qok (qu3 w) hb F (qw6 k hk) with ⟨hrun,_⟩|⟨e0,y,hm,hkey,hrun,hR,_,_⟩
 ·exact⟨_,false,[],hrun,Rw.nil _ _ _⟩
 ·obtain⟨_,l,hl⟩:=f.no _ _ hR;exact⟨e0.val,true,l,hrun,hl⟩
theorem MapOk.delete (h:MapOk w b n) {k:Int} (hk:-9223372036854775808≤k∧k≤9223372036854775807) (ty:TypeId) :
  ∃w',(Builtin.delete_ #[141,3] ty #[.map (some b),.int .i64 k]).run Tryz.prog w=.ok (.tuple #[]) w'∧MapOk w' b n∧Only (·=b) w w':=by
 have hnc:¬Typed w b 5:=h.not_cells;obtain⟨R,D,f,es,clock,hb,F,hs,hD⟩:=h;obtain⟨es',hrun,F',hs',_⟩:=Maps.fit_drop (ty:=ty) qpo qok hb F (qw6 k hk);have hon:Only (·=b) w (ChangeMaps.setBlock w b (.map es' clock)):=⟨rfl,rfl,rfl,by simp[ChangeMaps.setBlock],fun j _ hj=>ChangeMaps.heap_setBlock_other hb _ hj⟩;obtain⟨R',f'⟩:=qjc (ChangeMaps.setBlock w b (.map es' clock));obtain⟨F2,e1,_⟩:=F'.stay (R':=R') (fun x _ z hz=>by
  obtain⟨e,l,hl⟩:=f.no _ _ hz;rw[e];exact f'.yes _ l (hl.only hon (fun j hj ht=>hnc (hj▸ht))))
 exact⟨_,hrun,⟨R',_,f',es',clock,ChangeMaps.heap_setBlock_same hb _,F2,Nat.le_trans hs' hs,rfl⟩,hon⟩
end
structure TrV where
 d:Int
 b0:Nat
 b1:Nat
 x0:Int
 x1:Int
 x2:Int
 x3:Int
 x4:Int
 x5:Int
 x6:Int
 x7:Int
def qif (V:TrV):List Value:=[.int .i64 V.d,.map (some V.b0),.map (some V.b1),.int .i64 V.x0,.int .i64 V.x1,.int .i64 V.x2,.int .i64 V.x3,.int .i64 V.x4,.int .i64 V.x5,.int .i64 V.x6,.int .i64 V.x7]
structure TrIs (w:World) (lab:Nat→Nat) (t:Nat) (V:TrV) (m:Nat):Prop where
 blk:Blk w t 146 (qif V)
 lb:lab t=9
 l0:lab V.b0=18
 l1:lab V.b1=19
 m0:MapOk w V.b0 m
 m1:MapOk w V.b1 m
 d:0≤V.d∧V.d≤100000
section
variable {w w':World} {lab lab':Nat→Nat} {t m m':Nat} {V V':TrV} {P:Nat→Prop}
theorem TrIs.mono (h:TrIs w lab t V m) (hm:m≤m'):TrIs w lab t V m':=⟨h.blk,h.lb,h.l0,h.l1,h.m0.mono hm,h.m1.mono hm,h.d⟩
theorem TrIs.far (h:TrIs w lab t V m) (hs:Stps lab w P lab' w') (hp:∀i,P i→i≠9∧i≠18∧i≠19):TrIs w' lab' t V m :=
 ⟨hs.blk h.blk (by rw[h.lb];exact fun e=>(hp 9 e).1 rfl),(hs.lb h.blk).trans h.lb,(hs.old _ h.m0.lt).trans h.l0,(hs.old _ h.m1.lt).trans h.l1,
  h.m0.only hs.only (fun e=>(hp _ e.1).2.1 h.l0) hs.noOct,h.m1.only hs.only (fun e=>(hp _ e.1).2.2 h.l1) hs.noOct,h.d⟩
theorem TrIs.cell (h:TrIs w lab t V m) (i:Nat) (u:Value) (e:(qif V).set i u=qif V') (e1:V'.d=V.d∧V'.b0=V.b0∧V'.b1=V.b1):TrIs (w.setCell ⟨t,i,none⟩ u) lab t V' m∧Stps lab w (·=9) lab (w.setCell ⟨t,i,none⟩ u):=by
 have hs:=(Stps.refl lab w (·=9)).set h.blk (by decide) h.lb i u;obtain⟨a,b,c⟩:=e1;have n0:¬(lab V.b0=9∧¬Typed w V.b0 5):=fun e=>by have:=h.l0;omega
 have n1:¬(lab V.b1=9∧¬Typed w V.b1 5):=fun e=>by have:=h.l1;omega
 exact⟨⟨by rw[←e];exact h.blk.set i u,h.lb,by rw[b];exact h.l0,by rw[c];exact h.l1,by rw[b];exact h.m0.only hs.only n0 hs.noOct,by rw[c];exact h.m1.only hs.only n1 hs.noOct,by rw[a];exact h.d⟩,hs⟩
theorem TrIs.map0 (h:TrIs w lab t V m) (hm:m≤m') (hb:MapOk w' V.b0 m') (ho:Only (·=V.b0) w w'):TrIs w' (qaj lab w 18) t V m'∧Stps lab w (·=18) (qaj lab w 18) w':=by
 have hs:Stps lab w (·=18) (qaj lab w 18) w':=(Stp.mk' (ho.mono (fun k e=>by have e:k=V.b0:=e;subst e;exact⟨h.l0,h.m0.not_cells⟩))).stps rfl;exact⟨⟨hs.blk h.blk (by rw[h.lb];decide),(hs.lb h.blk).trans h.lb,(hs.old _ h.m0.lt).trans h.l0,(hs.old _ h.m1.lt).trans h.l1,hb,(h.m1.only hs.only (fun e=>by have:=h.l1;omega) hs.noOct).mono hm,h.d⟩,hs⟩
theorem TrIs.map1 (h:TrIs w lab t V m) (hm:m≤m') (hb:MapOk w' V.b1 m') (ho:Only (·=V.b1) w w'):TrIs w' (qaj lab w 19) t V m'∧Stps lab w (·=19) (qaj lab w 19) w':=by
 have hs:Stps lab w (·=19) (qaj lab w 19) w':=(Stp.mk' (ho.mono (fun k e=>by have e:k=V.b1:=e;subst e;exact⟨h.l1,h.m1.not_cells⟩))).stps rfl;exact⟨⟨hs.blk h.blk (by rw[h.lb];decide),(hs.lb h.blk).trans h.lb,(hs.old _ h.m0.lt).trans h.l0,(hs.old _ h.m1.lt).trans h.l1,(h.m0.only hs.only (fun e=>by have:=h.l0;omega) hs.noOct).mono hm,hb,h.d⟩,hs⟩
end
end Go.Proofs.YtjbijdmcceloaaaGreat.Top
