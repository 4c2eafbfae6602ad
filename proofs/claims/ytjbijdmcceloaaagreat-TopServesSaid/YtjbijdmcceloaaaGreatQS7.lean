/- Part of the proof of topServes_holds. No condition. -/
import Derived.Lib.SliceRun
import Derived.Test.YtjbijdmcceloaaaGreatQS6
set_option linter.unusedVariables false
set_option linter.unusedSimpArgs false
set_option maxHeartbeats 80000000
set_option maxRecDepth 100000
namespace Go.Proofs.YtjbijdmcceloaaaGreat.Top
open Go Go.RowKit Go.Proofs.YtjbijdmcceloaaaGreat Go.Proofs.YtjbijdmcceloaaaGreatW.PrintWords Go.Proofs.YtjbijdmcceloaaaGreatW.PrintLast Go.Proofs.YtjbijdmcceloaaaGreatW.PrintMore
theorem setCells_row {b:Nat} {e:TypeId}:∀(vs:List Value) (o:Nat) (w:World) (cells:Array Value),w.heap[b]?=some (.cells cells e (0,0))→o+vs.length≤cells.size →
  ∃cells',(w.setCells b o vs).heap[b]?=some (.cells cells' e (0,0))∧cells'.size=cells.size∧(∀j,j<o→cells'[j]?=cells[j]?)∧(∀j,j<vs.length→cells'[o+j]?=vs[j]?)∧(∀j,o+vs.length≤j→cells'[j]?=cells[j]?)
 |[],o,w,cells,h,_=>⟨cells,h,rfl,fun _ _=>rfl,fun j hj=>absurd hj (Nat.not_lt_zero j),fun _ _=>rfl⟩
 |v::vs,o,w,cells,h,hs=>by
  simp only[List.length_cons] at hs;obtain⟨c',h1,h2,h3,h4,h5⟩:=setCells_row vs (o+1) (w.setCell ⟨b,o,none⟩ v) (cells.setIfInBounds o v) (ql3 h o v) (by simp;omega);refine⟨c',h1,by simpa using h2,fun j hj=>?_,fun j hj=>?_,fun j hj=>?_⟩
  ·rw[h3 j (by omega),Array.getElem?_setIfInBounds,if_neg (by omega)]
  ·cases j with
   |zero =>
    rw[Nat.add_zero,h3 o (by omega),Array.getElem?_setIfInBounds,if_pos rfl,if_pos (by omega)];rfl
   |succ j =>
    simp only[List.length_cons] at hj;rw[show o+(j+1)=o+1+j from by omega,h4 j (by omega)];rfl
  ·simp only[List.length_cons] at hj;rw[h5 j (by omega),Array.getElem?_setIfInBounds,if_neg (by omega)]
theorem Only.setCells {P:Nat→Prop} {b:Nat} (hb:P b):∀(vs:List Value) (o:Nat) (w0 w:World),Only P w0 w→Only P w0 (w.setCells b o vs)
 |[],_,_,_,h=>h
 |v::vs,o,w0,w,h=>Only.setCells hb vs (o+1) w0 _ (h.set (p:=⟨b,o,none⟩) hb v)
def qau:Value→Option Nat
 |.slice (some a) _ _=>some a.block
 |_=>none
def Rw (w:World) (P:Nat→Prop) (e:Nat) (v:Value) (us:List Value):Prop :=
 (v=.slice none 0 0∧us=[]) ∨
 ∃g off c cells,v=.slice (some ⟨g,off,none⟩) us.length c∧us.length≤c∧c≤maxLen∧(∃fr,w.heap[g]?=some (.cells cells e fr)∧(e≠5→fr=(0,0)))∧off+c≤cells.size∧(∀j u,us[j]?=some u→cells[off+j]?=some u)∧P g
theorem Rw.nil (w:World) (P:Nat→Prop) (e:Nat):Rw w P e (.slice none 0 0) []:=Or.inl ⟨rfl,rfl⟩
theorem Rw.slice {w:World} {P:Nat→Prop} {e:Nat} {v:Value} {us:List Value} (h:Rw w P e v us) :
  ∃A c,v=.slice A us.length c∧us.length≤c∧c≤maxLen∧∀k,qau v=some k→P k∧Typed w k e∧k<w.heap.size:=by
 rcases h with ⟨rfl,rfl⟩|⟨g,off,c,cells,rfl,h1,h2,⟨fr,h3,hf⟩,h4,h5,h6⟩
 ·exact⟨none,0,rfl,Nat.le_refl _,Nat.zero_le _,fun k e=>by simp[qau] at e⟩
 ·refine⟨_,c,rfl,h1,h2,fun k e=>?_⟩;simp only[qau,Option.some.injEq] at e;subst e;exact⟨h6,⟨_,_,h3⟩,(Array.getElem?_eq_some_iff.1 h3).1⟩
theorem Rw.get {w:World} {P:Nat→Prop} {e:Nat} {v:Value} {us:List Value} (h:Rw w P e v us) (j:Nat) {u:Value} (hj:us[j]?=some u) :
  ∃g off c,v=.slice (some ⟨g,off,none⟩) us.length c∧us.length≤c∧w.cell? ⟨g,off+j,none⟩=some u:=by
 rcases h with ⟨rfl,rfl⟩|⟨g,off,c,cells,rfl,h1,h2,⟨fr,h3,hf⟩,h4,h5,h6⟩
 ·simp at hj
 ·exact⟨g,off,c,rfl,h1,by simp[World.cell?,h3,h5 j u hj]⟩
theorem Rw.only {w w':World} {P Q:Nat→Prop} {e:Nat} {v:Value} {us:List Value} (h:Rw w P e v us) (ho:Only Q w w') (hq:∀k,P k→Typed w k e→qau v=some k→¬Q k):Rw w' P e v us:=by
 rcases h with h|⟨g,off,c,cells,rfl,h1,h2,⟨fr,h3,hf⟩,h4,h5,h6⟩
 ·exact Or.inl h
 ·have hlt:g<w.heap.size:=(Array.getElem?_eq_some_iff.1 h3).1;exact Or.inr ⟨g,off,c,cells,rfl,h1,h2,⟨fr,(ho.block g hlt (hq g h6 ⟨_,_,h3⟩ rfl)).trans h3,hf⟩,h4,h5,h6⟩
theorem Rw.mono {w:World} {P P':Nat→Prop} {e:Nat} {v:Value} {us:List Value} (h:Rw w P e v us) (hp:∀k,P k→Typed w k e→k<w.heap.size→qau v=some k→P' k):Rw w P' e v us:=by
 rcases h with h|⟨g,off,c,cells,rfl,h1,h2,⟨fr,h3,hf⟩,h4,h5,h6⟩
 ·exact Or.inl h
 ·have hlt:g<w.heap.size:=(Array.getElem?_eq_some_iff.1 h3).1;exact Or.inr ⟨g,off,c,cells,rfl,h1,h2,⟨fr,h3,hf⟩,h4,h5,hp g h6 ⟨_,_,h3⟩ hlt rfl⟩
theorem Rw.below {w w':World} {P:Nat→Prop} {e:Nat} {v:Value} {us:List Value} (h:Rw w P e v us) (hb:Below w.heap.size w w'):Rw w' P e v us:=by
 rcases h with h|⟨g,off,c,cells,rfl,h1,h2,⟨fr,h3,hf⟩,h4,h5,h6⟩
 ·exact Or.inl h
 ·have hlt:g<w.heap.size:=(Array.getElem?_eq_some_iff.1 h3).1;exact Or.inr ⟨g,off,c,cells,rfl,h1,h2,⟨fr,(hb.block g hlt).trans h3,hf⟩,h4,h5,h6⟩
def qct:Value→Value
 |.slice A n c=>.slice (if c=1 then A else A.map (·.add 1)) (n-1) (c-1)
 |v=>v
theorem Rw.tail {w:World} {P:Nat→Prop} {e:Nat} {v u:Value} {us:List Value} (h:Rw w P e v (u::us)):Rw w P e (qct v) us:=by
 rcases h with ⟨_,h⟩|⟨g,off,c,cells,rfl,h1,h2,⟨fr,h3,hf⟩,h4,h5,h6⟩
 ·cases h
 ·simp only[List.length_cons] at h1;simp only[qct];by_cases hc:c=1
  ·have ht:us=[]:=List.eq_nil_of_length_eq_zero (by omega);subst ht;rw[if_pos hc];exact Or.inr ⟨g,off,c-1,cells,rfl,by simp,by omega,⟨fr,h3,hf⟩,by omega,fun j u hj=>by simp at hj,h6⟩
  ·rw[if_neg hc];refine Or.inr ⟨g,off+1,c-1,cells,by simp[Addr.add_lit],by omega,by omega,⟨fr,h3,hf⟩,by omega,fun j v hj=>?_,h6⟩;rw[show off+1+j=off+(j+1) from by omega];exact h5 (j+1) v (by simpa using hj)
theorem qhy (v:Value):qau (qct v)=qau v:=by
 cases v with
 |slice A n c =>
  simp only[qct];by_cases h:c=1
  ·rw[if_pos h];cases A <;> rfl
  ·rw[if_neg h];cases A with
   |none=>rfl
   |some a =>
    simp only[Option.map_some,qau,Option.some.injEq];unfold Addr.add;split <;> rfl
 |_=>rfl
theorem run_tail {P:Program} (t e:TypeId) (kl:IntKind) {i:TypeInfo} (ht:P.underlying t=some (.slice e)) (hi:P.info? e=some i) (hsz:i.size=1) (A:Option Addr) (n c:Nat) (hm:1≤n) (W:World) :
  (Instr.slice t (.slice A n c) (some (.int kl 1)) none none).run P W=.ok (qct (.slice A n c)) W:=by
 have hel:P.elem t=e:=by simp[Program.elem,ht]
 have hu:P.underlying t=some (.slice (P.elem t)):=by rw[hel];exact ht
 rw[run_slice_l W t A n c hu kl (1:Int) (by omega) (by omega),hel];simp[sizeOf,typeInfo,hi,hsz,sliced,Result.andThen,qct]
theorem qdj {w:World} {P:Nat→Prop} {e base:Nat} {v:Value} {us:List Value} (h:w.ownsRow base e 1 v us.length us) (hP:∀k,base≤k→P k):Rw w P e v us:=by
 rcases h.2 with ⟨rfl,h0⟩|⟨g,cap,cur,rfl,hb,hg,hn,hm,hs,ht⟩
 ·exact Or.inl ⟨rfl,List.eq_nil_of_length_eq_zero h0⟩
 ·refine Or.inr ⟨g,0,cap,cur,rfl,hn,hm,⟨(0,0),hg,fun _=>rfl⟩,by omega,fun j u hj=>?_,hP g hb⟩;have h1:(cur.toList.take (us.length*1))[j]?=us[j]?:=by rw[ht]
  have hjl:j<us.length:=(List.getElem?_eq_some_iff.1 hj).1;rw[List.getElem?_take,if_pos (by omega)] at h1;rw[Nat.zero_add,←Array.getElem?_toList,h1];exact hj
structure El (t e:Nat) (z:Value) (bytes:Nat):Prop where
 ht:Tryz.prog.underlying t=some (.slice e)
 info:(Tryz.prog.info? e).map (fun i=>(i.zero,i.size,i.bytes))=some (some z,1,bytes)
 hz:z.cells.size=1
 hb:0<bytes
theorem el23:El 77 23 (.slice none 0 0) 24:=⟨Tryz.underlying77,by kernel_rfl,rfl,by decide⟩
theorem el4:El 94 4 (.bool false) 1:=⟨by kernel_rfl,by kernel_rfl,rfl,by decide⟩
theorem el5:El 23 5 (.int .u8 0) 1:=⟨Tryz.underlying23,by kernel_rfl,rfl,by decide⟩
theorem el3:El 161 3 (.int .i64 0) 8:=⟨Tryz.underlying161,by kernel_rfl,rfl,by decide⟩
theorem Rw.append {t e bytes:Nat} {z:Value} (E:El t e z bytes) (ty:TypeId) {P Q:Nat→Prop} {v:Value} {us new:List Value} {nv:Value} {w:World} (h:Rw w P e v us) (hn:Rw w Q e nv new) (h1:∀u∈new,u.oneCell'=true) (h2:∀u∈us,u.oneCell'=true) (hl:(us.length+new.length)*bytes≤140737488355328) (hP:∀k,w.heap.size≤k→P k) (he:e=5→∀g off n c cells fr,v=.slice (some ⟨g,off,none⟩) n c→w.heap[g]?=some (.cells cells e fr)→fr=(0,0):=by intro h;exact absurd h (by decide)) :
  ∃v1 w1,(Builtin.append_ #[t,t] ty #[v,nv]).run Tryz.prog w=.ok v1 w1∧Rw w1 P e v1 (us++new)∧Only (fun k=>qau v=some k) w w1∧(qau v1=qau v∨∃b,qau v1=some b∧w.heap.size≤b):=by
 obtain⟨i0,hi,hz0,hz1,hz2⟩:=info_parts E.info;have ht:=E.ht;have hb:=E.hb;have h63:us.length+new.length≤maxLen:=by
  simp only[maxLen];have:us.length+new.length≤(us.length+new.length)*bytes:=Nat.le_mul_of_pos_right _ hb;omega
 rcases hn with ⟨rfl,rfl⟩|⟨gn,offn,cn,cellsn,rfl,n1,n2,⟨frn,n3,_⟩,n4,n5,n6⟩
 ·refine⟨v,w,?_,by rw[List.append_nil];exact h,Only.refl _ _,Or.inl rfl⟩;rcases h with ⟨rfl,rfl⟩|⟨g,off,c',cells,rfl,h1',_⟩
  ·simp[Builtin.append_,run_underlying ht,sizeOf,typeInfo,hi,Builtin.lenOf,Builtin.firstCells]
  ·simp[Builtin.append_,run_underlying ht,sizeOf,typeInfo,hi,Builtin.lenOf,Builtin.firstCells,h1',storeCells]
 ·have hcells:∀j u,new[j]?=some u→w.cell? ((⟨gn,offn,none⟩:Addr).add j)=some u:=by
   intro j u hu;rw[Addr.add_lit];simp[World.cell?,n3,n5 j u hu]
  rcases h with ⟨rfl,rfl⟩|⟨g,off,c',cells,rfl,h1',h2',⟨fr,h3,hf⟩,h4,h5,h6⟩
  ·have HO:w.ownsRow w.heap.size e 1 (.slice none 0 0) 0 []:=⟨rfl,Or.inl ⟨rfl,rfl⟩⟩;obtain⟨v1,w1,hrun,ho,hg,hat,_⟩:=run_append_own_at (P:=Tryz.prog) w w.heap.size t ty e i0 z 1 bytes ht hi hz0 hz1 hz2 E.hz (by omega) (.slice none 0 0) 0 [] HO ⟨gn,offn,none⟩ new.length cn new (by omega) hcells h1 (by simpa using h63) (by simpa using hl) (Nat.le_refl _);refine⟨v1,w1,hrun,qdj (base:=w.heap.size) (by simpa using ho) hP,⟨hg.os,hg.tape,hg.output,hg.size,fun k hk _=>hg.block k hk (by simp[Value.ownBlock])⟩,?_⟩;rcases ho.2 with ⟨rfl,_⟩|⟨g1,cap,cur,rfl,hb1,_⟩
   ·exact Or.inl rfl
   ·exact Or.inr ⟨g1,rfl,hb1⟩
  ·by_cases hroom:us.length+new.length≤c'
   ·have hf:fr=(0,0):=by
     by_cases e5:e=5
     ·exact he e5 _ _ _ _ _ _ rfl h3
     ·exact hf e5
    subst hf;have hc0:∀j,j<new.length→(w.cell? ⟨g,off+us.length*i0.size+j,none⟩).isSome=true:=by
     intro j hj;rw[hz1,Nat.mul_one];have hlt:off+us.length+j<cells.size:=by omega
     simp[World.cell?,h3,Array.getElem?_eq_getElem hlt]
    have hf0:∀j,j<new.length→w.frozen? ⟨g,off+us.length*i0.size+j,none⟩=false:=by
     intro j hj;simp[World.frozen?,h3]
    have hrun:=run_append_room_cells (P:=Tryz.prog) w t ty e i0 ht hi g off us.length c' ⟨gn,offn,none⟩ new.length cn new (by rw[hz1,Nat.mul_one]) hcells h1 hroom hc0 hf0;rw[hz1,Nat.mul_one] at hrun;obtain⟨cells',e1,e2,e3,e4,_⟩:=setCells_row new (off+us.length) w cells h3 (by omega);refine⟨_,_,hrun,Or.inr ⟨g,off,c',cells',by rw[List.length_append],by rw[List.length_append];exact hroom,h2',⟨(0,0),e1,fun _=>rfl⟩,by omega,fun j u hj=>?_,h6⟩,(Only.setCells (P:=fun k=>g=k) rfl _ _ _ _ (Only.refl _ _)).mono (fun k hk=>by subst hk;rfl),Or.inl rfl⟩;by_cases hjm:j<us.length
    ·rw[e3 _ (by omega)];rw[List.getElem?_append_left hjm] at hj;exact h5 j u hj
    ·rw[List.getElem?_append_right (by omega)] at hj;have hlt:j-us.length<new.length:=(List.getElem?_eq_some_iff.1 hj).1;have:=e4 (j-us.length) hlt;rw[show off+us.length+(j-us.length)=off+j from by omega] at this;rw[this];exact hj
   ·have holds:∀j u,us[j]?=some u→w.cell? ((⟨g,off,none⟩:Addr).add j)=some u:=by
     intro j u hu;rw[Addr.add_lit];simp[World.cell?,h3,h5 j u hu]
    obtain⟨v1,w1,hrun,ho,hg⟩:=run_append_arg_grows (P:=Tryz.prog) w t ty e i0 z 1 bytes ht hi hz0 hz1 hz2 E.hz (by omega) ⟨g,off,none⟩ us.length c' us (by omega) holds ⟨gn,offn,none⟩ new.length cn new (by omega) hcells (by omega) h63 hl;refine⟨v1,w1,hrun,qdj (base:=w.heap.size) ?_ hP,⟨hg.os,hg.tape,hg.output,hg.size,fun k hk _=>hg.block k hk (by simp)⟩,?_⟩
    ·rw[List.length_append];exact ho
    ·rcases ho.2 with ⟨rfl,h0⟩|⟨g1,cap,cur,rfl,hb1,_⟩
     ·exact absurd h0 (by omega)
     ·exact Or.inr ⟨g1,rfl,hb1⟩
end Go.Proofs.YtjbijdmcceloaaaGreat.Top
