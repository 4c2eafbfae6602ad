/- Part of the proof of topServes_holds. No condition. -/
import Derived.Test.YtjbijdmcceloaaaGreatQS14
set_option linter.unusedVariables false
set_option linter.unusedSimpArgs false
set_option maxHeartbeats 80000000
set_option maxRecDepth 100000
namespace Go.Proofs.YtjbijdmcceloaaaGreat.Bits
open Go Go.RowKit Go.Proofs.YtjbijdmcceloaaaGreat.MTopTotal Go.Proofs.YtjbijdmcceloaaaGreatW.PrintWords Go.Proofs.YtjbijdmcceloaaaGreatW.PrintLast Go.Proofs.YtjbijdmcceloaaaGreatW.PrintMore Go.Proofs.YtjbijdmcceloaaaGreat.Base
def stuffed:Nat→List Bool→List Bool
 |_,[]=>[]
 |n,b::t=>if b then (if n+1=5 then true::false::stuffed 0 t else true::stuffed (n+1) t) else false::stuffed 0 t
def bared:Nat→List Bool→List Bool×Int
 |n,[]=>if n=5 then ([],5) else ([],0)
 |n,b::t=>if n=5 then (if b then ([],4) else bared 0 t)
   else (if (bared (if b then n+1 else 0) t).2=0 then (b::(bared (if b then n+1 else 0) t).1,0) else ([],(bared (if b then n+1 else 0) t).2))
theorem qoa (t:List Bool):∀n,(bared n t).2≠0→(bared n t).1=[]:=by
 induction t with
 |nil=>intro n h;simp only[bared] at *;split <;> rfl
 |cons b t ih =>
  intro n h;simp only[bared] at *;by_cases h5:n=5
  ·rw[if_pos h5] at *;cases b
   ·exact ih 0 (by simpa using h)
   ·rfl
  ·rw[if_neg h5] at *;generalize bared (if b=true then n+1 else 0) t=r at *;split
   ·rename_i h0;rw[if_pos h0] at h;exact absurd rfl h
   ·rfl
theorem qwk (t:List Bool) (hl:t.length<1000000000000):∀d i n acc,i+d=t.length→n<5→acc.length≤2*i →
  Ev (fun k=>stuff_Put.l0 k acc ((n:Nat):Int) t (t.length:Int) (i:Int)) (acc++stuffed n (t.drop i)):=by
 intro d
 induction d with
 |zero =>
  intro i n acc hi hn ha;refine Ev.to (Ev.step (g:=fun k=>stuff_Put.l0 k acc ((n:Nat):Int) t (t.length:Int) (i:Int)) (fun k=>?_) (Ev.now acc)) rfl ?_
  ·simp only[stuff_Put.l0];rw[if_neg (by omega)]
  ·rw[List.drop_of_length_le (by omega)];simp[stuffed]
 |succ d ih =>
  intro i n acc hi hn ha;have h1:i<t.length:=by omega
  have ea:t.drop i=t[i]::t.drop (i+1):=List.drop_eq_getElem_cons h1;cases hti:t[i] with
  |false =>
   refine Ev.to (Ev.step (g:=fun k=>stuff_Put.l0 k acc ((n:Nat):Int) t (t.length:Int) (i:Int)) (fun k=>?_) (ih (i+1) 0 (acc++[false]) (by omega) (by omega) (by simp;omega))) rfl ?_
   ·simp only[stuff_Put.l0];rw[if_pos (by omega),if_pos (by omega),if_pos (by omega),if_pos (by omega),qcc false t i h1,hti,qm3 i (by omega),Option.bind_some,if_neg (by simp)];rfl
   ·rw[ea,hti];simp[stuffed]
  |true =>
   by_cases h5:n+1=5
   ·refine Ev.to (Ev.step (g:=fun k=>stuff_Put.l0 k acc ((n:Nat):Int) t (t.length:Int) (i:Int)) (fun k=>?_) (ih (i+1) 0 (acc++[true]++[false]) (by omega) (by omega) (by simp;omega))) rfl ?_
    ·simp only[stuff_Put.l0];rw[if_pos (by omega),if_pos (by omega),if_pos (by omega),if_pos (by omega),qcc false t i h1,hti,qm3 i (by omega),qm3 n (by omega),Option.bind_some,if_pos rfl,if_pos (by omega),if_pos (by simp;omega)];rfl
    ·rw[ea,hti];simp[stuffed,h5]
   ·refine Ev.to (Ev.step (g:=fun k=>stuff_Put.l0 k acc ((n:Nat):Int) t (t.length:Int) (i:Int)) (fun k=>?_) (ih (i+1) (n+1) (acc++[true]) (by omega) (by omega) (by simp;omega))) rfl ?_
    ·simp only[stuff_Put.l0];rw[if_pos (by omega),if_pos (by omega),if_pos (by omega),if_pos (by omega),qcc false t i h1,hti,qm3 i (by omega),qm3 n (by omega),Option.bind_some,if_pos rfl,if_neg (by omega)]
    ·rw[ea,hti];simp[stuffed,h5]
theorem qwl (t:List Bool) (hl:t.length<1000000000000):Ev (fun k=>stuff_Put.f k t) (stuffed 0 t) :=
 Ev.to (qwk t hl t.length 0 0 [] (by omega) (by omega) (by simp)) (by funext k;rfl) (by simp)
def qrm (acc:List Bool) (r:List Bool×Int):List Bool×Int:=if r.2=0 then (acc++r.1,0) else ([],r.2)
theorem qrl (t:List Bool) (n:Nat):qrm [] (bared n t)=bared n t:=by
 unfold qrm;split
 ·rename_i h;exact Prod.ext rfl h.symm
 ·rename_i h;exact Prod.ext (qoa t n h).symm rfl
theorem qpc (acc:List Bool) (b:Bool) (t:List Bool) (n:Nat) (h:n≠5):qrm (acc++[b]) (bared (if b then n+1 else 0) t)=qrm acc (bared n (b::t)):=by
 rw[show bared n (b::t)=(if n=5 then (if b then ([],4) else bared 0 t)
   else (if (bared (if b then n+1 else 0) t).2=0 then (b::(bared (if b then n+1 else 0) t).1,0) else ([],(bared (if b then n+1 else 0) t).2))) from rfl,if_neg h]
 generalize bared (if b=true then n+1 else 0) t=r;unfold qrm;by_cases h0:r.2=0
 ·rw[if_pos h0,if_pos h0,if_pos rfl];simp
 ·rw[if_neg h0,if_neg h0,if_neg (by exact h0)]
theorem qut (t:List Bool) (hl:t.length<1000000000000):∀d i n acc,i+d=t.length→n≤5→acc.length≤i →
  Ev (fun k=>stuff_Take.l0 k acc ((n:Nat):Int) t (t.length:Int) (i:Int)) (qrm acc (bared n (t.drop i))):=by
 intro d
 induction d with
 |zero =>
  intro i n acc hi hn ha;rw[List.drop_of_length_le (by omega)];refine Ev.to (Ev.step (g:=fun k=>stuff_Take.l0 k acc ((n:Nat):Int) t (t.length:Int) (i:Int)) (fun k=>?_) (Ev.now (if n=5 then ([],5) else (acc,0)))) rfl ?_
  ·simp only[stuff_Take.l0];rw[if_neg (by omega)];by_cases h5:n=5
   ·rw[if_pos (by omega),if_pos h5]
   ·rw[if_neg (by omega),if_neg h5]
  ·by_cases h5:n=5
   ·simp[bared,h5,qrm]
   ·simp[bared,h5,qrm]
 |succ d ih =>
  intro i n acc hi hn ha;have h1:i<t.length:=by omega
  have ea:t.drop i=t[i]::t.drop (i+1):=List.drop_eq_getElem_cons h1;rw[ea];by_cases h5:n=5
  ·subst h5;cases hti:t[i] with
   |true =>
    refine Ev.to (Ev.step (g:=fun k=>stuff_Take.l0 k acc ((5:Nat):Int) t (t.length:Int) (i:Int)) (fun k=>?_) (Ev.now ([],4))) rfl ?_
    ·simp only[stuff_Take.l0];rw[if_pos (by omega),if_pos (by omega),if_pos (by omega),if_pos (by omega),qcc false t i h1,hti,if_pos rfl]
    ·simp[bared,qrm]
   |false =>
    refine Ev.to (Ev.step (g:=fun k=>stuff_Take.l0 k acc ((5:Nat):Int) t (t.length:Int) (i:Int)) (fun k=>?_) (ih (i+1) 0 acc (by omega) (by omega) (by omega))) rfl ?_
    ·simp only[stuff_Take.l0];rw[if_pos (by omega),if_pos (by omega),if_pos (by omega),if_pos (by omega),qcc false t i h1,hti,if_neg (by simp),qm3 i (by omega)];rfl
    ·simp[bared]
  ·rw[←qpc acc t[i] _ n h5];cases hti:t[i] with
   |false =>
    refine Ev.step (fun k=>?_) (ih (i+1) 0 (acc++[false]) (by omega) (by omega) (by simp;omega));simp only[stuff_Take.l0];rw[if_pos (by omega),if_pos (by omega),if_pos (by omega),if_neg (by omega),if_pos (by omega),qcc false t i h1,hti,qm3 i (by omega),Option.bind_some,if_neg (by simp)];rfl
   |true =>
    refine Ev.step (fun k=>?_) (ih (i+1) (n+1) (acc++[true]) (by omega) (by omega) (by simp;omega));simp only[stuff_Take.l0];rw[if_pos (by omega),if_pos (by omega),if_pos (by omega),if_neg (by omega),if_pos (by omega),qcc false t i h1,hti,qm3 i (by omega),qm3 n (by omega),Option.bind_some,if_pos rfl]
theorem quu (t:List Bool) (hl:t.length<1000000000000):Ev (fun k=>stuff_Take.f k t) (bared 0 t) :=
 Ev.to (qut t hl t.length 0 0 [] (by omega) (by omega) (by simp)) (by funext k;rfl) (by simp[qrl])
theorem qwo (t:List Bool) (hl:t.length≤140737488355328):Ev (fun k=>tape_Low.f k t) (low t):=by
 refine count t.length (fun i k=>tape_Low.l0 k (low (t.take i)) t (t.length:Int) (i:Int)) (low t) ?_ ?_ |> fun z=>Ev.to z (by funext k;simp[tape_Low.f,low,val]) rfl
 ·intro i hi hn;have et:t.take (i+1)=t.take i++[t[i]]:=List.take_succ_eq_append_getElem hi;refine Ev.step (fun k=>?_) hn;simp only[tape_Low.l0];rw[if_pos (by omega),if_pos (by omega),if_pos (by omega),qcc false t i hi,qm3 i (by omega)];by_cases h8:i<8
  ·have e8:low (t.take (i+1))=low (t.take i)+(if t[i] then 2^i else 0):=by
    unfold low;rw[List.take_take,List.take_take,show min 8 (i+1)=i+1 from by omega,show min 8 i=i from by omega,et,qqw];have:(t.take i).length=i:=by rw[List.length_take];omega
    rw[this]
   cases hti:t[i] with
   |false=>rw[if_neg (by simp),e8,hti];simp
   |true =>
    rw[if_pos rfl,if_pos (by omega),e8,hti];have hv:low (t.take i)<2^i:=by
     have:=qsi ((t.take i).take 8);have hle:((t.take i).take 8).length=i:=by simp;omega
     rw[hle] at this;exact this
    have hv0:=qso (t.take i);have hp:(2:Int)^i≤128:=by
     have:(2:Nat)^i≤2^7:=Nat.pow_le_pow_right (by decide) (by omega)
     exact_mod_cast this
    have hp0:(0:Int)<2^i:=Int.pow_pos (by decide);have es:shl .u8 1 (i:Int)=2^i:=by
     unfold shl;rw[IntKind.wrap_u8];have:min ((i:Int).toNat) IntKind.u8.bits=i:=by show min ((i:Int).toNat) 8=i;omega
     rw[this,Int.one_mul];omega
    rw[es];have ej:Go.bits .or .u8 (low (t.take i)) (2^i)=low (t.take i)+2^i:=by
     have:=bits_join .u8 8 (by decide) wraps_u8 i (2^i) (low (t.take i)) (by omega) (by simp) (by omega) hv0 hv (by omega);have comm:Go.bits .or .u8 (low (t.take i)) (2^i)=Go.bits .or .u8 (2^i) (low (t.take i)):=by
      simp only[Go.bits];rw[BitVec.or_comm]
     rw[comm,this];omega
    rw[ej];simp
  ·have e8:low (t.take (i+1))=low (t.take i):=by
    unfold low;rw[List.take_take,List.take_take,show min 8 (i+1)=8 from by omega,show min 8 i=8 from by omega]
   rw[e8];cases hti:t[i] with
   |false=>rw[if_neg (by simp)]
   |true=>rw[if_pos rfl,if_neg (by omega)]
 ·refine Ev.step (fun k=>?_) (Ev.now _);simp only[tape_Low.l0];rw[if_neg (by omega),List.take_length]
theorem qqr (t:List Bool) (hl:t.length≤140737488355328):Ev (fun k=>tape_Tape_Octets.f k t) (if t.length%8=0 then (octs (t.length/8) t,0) else ([],8)):=by
 by_cases h8:t.length%8=0
 ·rw[if_pos h8];obtain⟨n,hn⟩:∃n,t.length=8*n:=⟨t.length/8,by omega⟩;have hq:t.length/8=n:=by omega
  rw[hq];refine count n (fun i k=>tape_Tape_Octets.l0 k t (octs i t) ((8*i:Nat):Int)) _ ?_ ?_ |> fun z=>Ev.to z (by funext k;unfold tape_Tape_Octets.f;rw[if_pos (by omega)];rfl) rfl
  ·intro i hi hnx;have ew:wrap64 (((8*i:Nat):Int)+8)=((8*(i+1):Nat):Int):=by rw[w64 _ (by omega) (by omega)];omega
   have hlow:Ev (fun k=>tape_Low.f k ((t.take (8*(i+1))).drop (8*i))) (low (t.drop (8*i))):=by
    refine Ev.to (qwo _ (by simp;omega)) rfl ?_;unfold low
    congr 1
    rw[List.drop_take,List.take_take,show min 8 (8*(i+1)-8*i)=8 from by omega]
   refine Ev.step (f:=fun k=>(tape_Low.f k ((t.take (8*(i+1))).drop (8*i))).bind fun x=>if (octs i t).length<140737488355328 then tape_Tape_Octets.l0 k t (octs i t++[x]) ((8*(i+1):Nat):Int) else none) (fun k=>?_) ?_
   ·simp only[tape_Tape_Octets.l0];rw[ew,if_pos (by omega),if_pos (by omega),if_pos (by omega),if_pos (by omega)];simp only[Int.toNat_natCast]
   ·refine Ev.bind hlow ?_;refine Ev.congr (fun k=>?_) hnx;rw[if_pos (by rw[qb2];omega),qpd]
  ·refine Ev.step (fun k=>?_) (Ev.now _);simp only[tape_Tape_Octets.l0];rw[if_neg (by omega)]
 ·rw[if_neg h8];refine Ev.congr (fun k=>?_) (Ev.now _);unfold tape_Tape_Octets.f;rw[if_neg (by omega)]
theorem quk (b:Int) (j:Nat) (h0:0≤b) (h1:b<256) (hj:j<8):((Go.bits .and .u8 (shr .u8 b (j:Int)) 1)==1)=ql4 b j:=by
 have e:shr .u8 b (j:Int)=b/2^j:=qjw (k:=.u8) (x:=b) (y:=(j:Int)) rfl (by show (j:Int)≤8;omega)▸rfl;have h2:0≤b/2^j:=Int.ediv_nonneg h0 (Int.pow_nonneg (by decide));have h3:b/2^j<256:=by
  have:=Int.ediv_le_self (2^j) h0;omega
 rw[e,show (1:Int)=2^1-1 from rfl,bits_mask .u8 8 (by decide) wraps_u8 1 (by decide) _ h2 h3];rfl
theorem qxs (l:List Int) (i:Nat) (hi:i<l.length) (h0:0≤l[i]) (h1:l[i]<256) (acc:List Bool) (r:List Bool) (hacc:acc.length+8<140737488355328)
  (h:Ev (fun k=>tape_Of.l0 k (acc++octet l[i]) l (l.length:Int) (wrap64 ((i:Int)+1))) r) :
  Ev (fun k=>tape_Of.l1 k acc l[i] l (l.length:Int) (i:Int) 0) r:=by
 refine count 8 (fun j k=>tape_Of.l1 k (acc++(List.range j).map (ql4 l[i])) l[i] l (l.length:Int) (i:Int) (j:Int)) r ?_ ?_ |> fun z=>Ev.to z (by funext k;simp) rfl
 ·intro j hj hn;refine Ev.step (fun k=>?_) hn;have e:(List.range (j+1)).map (ql4 l[i])=(List.range j).map (ql4 l[i])++[ql4 l[i] j]:=by rw[List.range_succ,List.map_append];rfl
  simp only[tape_Of.l1];rw[if_pos (by omega),if_pos (by omega),if_pos (by simp;omega),quk _ _ h0 h1 hj,qm3 j (by omega),e,List.append_assoc]
 ·refine Ev.step (fun k=>?_) h;simp only[tape_Of.l1];rw[if_neg (by decide)];rfl
theorem qse (l:List Int) (hl:l.length≤10000000000000) (hb:∀x∈l,0≤x∧x<256):Ev (fun k=>tape_Of.f k l) (bitsOf l):=by
 refine count l.length (fun i k=>tape_Of.l0 k (bitsOf (l.take i)) l (l.length:Int) (i:Int)) (bitsOf l) ?_ ?_ |> fun z=>Ev.to z (by funext k;simp[tape_Of.f,bitsOf]) rfl
 ·intro i hi hn;have hx:=hb l[i] (List.getElem_mem hi);have hlen:(bitsOf (l.take i)).length=8*i:=by rw[bitsOf_length,List.length_take];omega
  have key:=qxs l i hi hx.1 hx.2 (bitsOf (l.take i)) (bitsOf l) (by omega) (by rw[qm3 i (by omega),←qfy l i hi];exact hn);refine Ev.step (fun k=>?_) key;simp only[tape_Of.l0];rw[if_pos (by omega),if_pos (by omega),if_pos (by omega),qva l i hi]
 ·refine Ev.step (fun k=>?_) (Ev.now _);simp only[tape_Of.l0];rw[if_neg (by omega),List.take_length]
theorem qog (n:Int) (h0:0≤n) (h1:n<2^16):IntKind.u16.wrap n=n:=by
 simp[IntKind.wrap,IntKind.bits,IntKind.signed];omega
theorem quv (r:Nat) (hr:r<65536) (b:Bool):rest_Step.f (r:Int) b=some ((Crc.stepN r b:Nat):Int):=by
 have e2:((r:Int)/(2:Int))=(((r >>> 1):Nat):Int):=by rw[Nat.shiftRight_eq_div_pow];omega
 have h2:r >>> 1<65536:=by rw[Nat.shiftRight_eq_div_pow];omega
 have hx:Go.bits .xor .u16 ((r >>> 1:Nat):Int) 33800=(((r >>> 1) ^^^ 33800:Nat):Int):=u16_xor_nat (r >>> 1) 33800 h2 (by decide);have test:∀c:Nat,c<2→((Go.bits .and .u16 (Go.bits .xor .u16 (r:Int) (c:Int)) 1)=1↔(r.testBit 0 != decide (c=1))=true):=by
  intro c hc;rw[u16_xor_nat r c hr (by omega)];have hlt:r ^^^ c<2^16:=Nat.xor_lt_two_pow hr (by omega);rw[show (1:Int)=2^1-1 from rfl,bits_mask .u16 16 (by decide) qog 1 (by decide) _ (by omega) (by exact_mod_cast hlt)];have e:(((r ^^^ c:Nat):Int)%2^1=2^1-1)↔(r ^^^ c)%2=1:=by omega
  rw[e];have hb:(r ^^^ c).testBit 0=(r.testBit 0 ^^ c.testBit 0):=Nat.testBit_xor ..;have hc2:c.testBit 0=decide (c=1):=by rw[Nat.testBit_zero];rcases (show c=0∨c=1 by omega) with rfl|rfl <;> rfl
  rw[Nat.testBit_zero,hc2] at hb;rw[←decide_eq_true_iff (p:=(r ^^^ c)%2=1),hb]
 unfold rest_Step.f Crc.stepN;rw[e2];cases b with
 |true =>
  have this:(Go.bits .and .u16 (Go.bits .xor .u16 (r:Int) 1) 1)=1↔(r.testBit 0 != true)=true:=test 1 (by decide);rw[if_pos rfl];by_cases h:(r.testBit 0 != true)=true
  ·rw[if_pos (this.mpr h),if_pos h,hx]
  ·rw[if_neg (fun h'=>h (this.mp h')),if_neg h]
 |false =>
  have this:(Go.bits .and .u16 (Go.bits .xor .u16 (r:Int) 0) 1)=1↔(r.testBit 0 != false)=true:=test 0 (by decide);rw[if_neg (by decide)];by_cases h:(r.testBit 0 != false)=true
  ·rw[if_pos (this.mpr h),if_pos h,hx]
  ·rw[if_neg (fun h'=>h (this.mp h')),if_neg h]
theorem qh3 (t:List Bool) (hl:t.length<140737488355328):Ev (fun k=>rest_Bits.f k t) ((Crc.crc t:Nat):Int):=by
 refine count t.length (fun i k=>rest_Bits.l0 k ((Crc.run 65535 (t.take i):Nat):Int) t (t.length:Int) (i:Int)) _ ?_ ?_ |> fun z=>Ev.to z (by funext k;simp[rest_Bits.f,Crc.run]) rfl
 ·intro i hi hn;have hr:=Crc.run_lt (t.take i) 65535 (by decide);have et:Crc.run 65535 (t.take (i+1))=Crc.stepN (Crc.run 65535 (t.take i)) t[i]:=qgp _ _ _ _ hi;refine Ev.step (fun k=>?_) hn;simp only[rest_Bits.l0];rw[if_pos (by omega),if_pos (by omega),if_pos (by omega),qcc false t i hi,quv _ hr,Option.bind_some,qm3 i (by omega),et]
 ·refine Ev.step (fun k=>?_) (Ev.now _);simp only[rest_Bits.l0];rw[if_neg (by omega),List.take_length];rfl
def chk (p:List Int):List Int:=octs 2 (Crc.tail (Crc.crc (bitsOf p)))
theorem qd3 (p:List Int):(chk p).length=2:=qb2 _ _
theorem qqd (p:List Int):∀x∈chk p,0≤x∧x<256:=fun x hx=>qho _ _ x hx
theorem qst (t:List Bool):Crc.crc t<65536:=Crc.run_lt t 65535 (by decide)
theorem qsc (l:List Int) (hl:l.length≤10000000000000) (hb:∀x∈l,0≤x∧x<256):Ev (fun k=>rest_Right.f k l) (decide (2≤l.length)&&decide (Crc.crc (bitsOf l)=61624)):=by
 unfold rest_Right.f;by_cases h2:2≤l.length
 ·refine Ev.congr (fun k=>if_pos (by omega)) ?_;refine Ev.bind (qse l hl hb) ?_;refine Ev.bind (qh3 (bitsOf l) (by rw[bitsOf_length];omega)) ?_;refine Ev.to (Ev.now _) rfl ?_;rw[decide_eq_true h2,Bool.true_and,Bool.eq_iff_iff];simp only[beq_iff_eq,decide_eq_true_eq];omega
 ·refine Ev.congr (fun k=>if_neg (by omega)) ?_;rw[decide_eq_false h2,Bool.false_and];exact Ev.now _
theorem qmx (m j:Nat):ql4 (m:Int) j=m.testBit j:=by
 rw[Nat.testBit_eq_decide_div_mod_eq];unfold ql4;have e:((m:Int)/2^j%2)=((m/2^j%2:Nat):Int):=by simp
 rw[e];have h2:m/2^j%2=0∨m/2^j%2=1:=by omega
 rcases h2 with h2|h2 <;> rw[h2] <;> rfl
theorem qq5 (c:Nat):bitsOf [(((65535 ^^^ c)%256:Nat):Int),(((65535 ^^^ c)/256%256:Nat):Int)]=Crc.tail c:=by
 have e1:∀j,j<8→ql4 (((65535 ^^^ c)%256:Nat):Int) j=!(c.testBit j):=by
  intro j hj;rw[qmx,show (256:Nat)=2^8 from rfl,Nat.testBit_mod_two_pow,Nat.testBit_xor,Crc.ones_bit ⟨j,by omega⟩,decide_eq_true hj];simp
 have e2:∀j,j<8→ql4 (((65535 ^^^ c)/256%256:Nat):Int) j=!(c.testBit (8+j)):=by
  intro j hj;rw[qmx,show (256:Nat)=2^8 from rfl,Nat.testBit_mod_two_pow,Nat.testBit_div_two_pow,Nat.testBit_xor,decide_eq_true hj];rw[show j+8=8+j from by omega,Crc.ones_bit ⟨8+j,by omega⟩];simp
 apply List.ext_getElem
 ·rw[bitsOf_length,Crc.tail_length];rfl
 ·intro i h1 h2;have hi:i<16:=by rw[Crc.tail_length] at h2;exact h2
  rw[qn8 _ i h1 (by show i/8<2;omega)];have et:(Crc.tail c)[i]'h2=!(c.testBit i):=by simp[Crc.tail,Crc.bits16]
  rw[et];by_cases h8:i<8
  ·have:i/8=0:=by omega
   simp only[this];show ql4 _ (i%8)=_;rw[show i%8=i from by omega];exact e1 i h8
  ·have:i/8=1:=by omega
   simp only[this];refine(e2 (i%8) (by omega)).trans ?_;rw[show 8+i%8=i from by omega]
theorem qsh (l:List Int) (hl:l.length≤10000000000000) (hb:∀x∈l,0≤x∧x<256):Ev (fun k=>rest_Check.f k l) (chk l):=by
 unfold rest_Check.f;refine Ev.bind (qse l hl hb) ?_;refine Ev.bind (qh3 (bitsOf l) (by rw[bitsOf_length];omega)) ?_;refine Ev.to (Ev.now _) rfl ?_;have hc:=qst (bitsOf l);have hx:Go.bits .xor .u16 65535 ((Crc.crc (bitsOf l):Nat):Int)=((65535 ^^^ Crc.crc (bitsOf l):Nat):Int):=u16_xor_nat 65535 _ (by decide) hc;rw[hx];unfold chk;rw[←qq5];have hr:∀x∈[(((65535 ^^^ Crc.crc (bitsOf l))%256:Nat):Int),(((65535 ^^^ Crc.crc (bitsOf l))/256%256:Nat):Int)],0≤x∧x<256:=by
  intro x hx;simp only[List.mem_cons,List.not_mem_nil,or_false] at hx;rcases hx with rfl|rfl <;> omega
 have:=qhp _ hr;simp only[List.length_cons,List.length_nil,Nat.zero_add,Nat.reduceAdd] at this;rw[this];simp
theorem quo (l:List Int) (hl:l.length≤10000000000000) (hb:∀x∈l,0≤x∧x<256):Ev (fun k=>rest_With.f k l) (l++chk l):=by
 unfold rest_With.f;refine Ev.congr (f:=fun k=>(rest_Check.f k l).bind fun t129=>(if (([]:List Int)++l).length+t129.length<140737488355328 then (some (([]:List Int)++l++t129)) else none)) (fun k=>?_) ?_
 ·rw[if_pos (by simp;omega),Option.bind_some]
 ·refine Ev.bind (qsh l hl hb) ?_;refine Ev.congr (fun k=>?_) (Ev.now _);rw[if_pos (by rw[qd3];simp;omega),List.nil_append]
def qo7 (p:List Int):Bool:=decide (2≤p.length)&&decide (Crc.crc (bitsOf p)=61624)
def qi6 (p:List Int):List Int×Int:=if p.length<5 then ([],5) else if 279<p.length then ([],6) else if qo7 p=true then (p.take (p.length-2),0) else ([],7)
def judged (t:List Bool):List Int×Int :=
 if (bared 0 t).2=0 then (if (bared 0 t).1.length%8=0 then qi6 (octs ((bared 0 t).1.length/8) (bared 0 t).1) else ([],8)) else ([],4)
theorem qob (t:List Bool):∀n,(bared n t).1.length≤t.length:=by
 induction t with
 |nil=>intro n;simp only[bared];split <;> exact Nat.le_refl _
 |cons b t ih =>
  intro n;simp only[bared,List.length_cons];have h0:=ih 0;have h1:=ih (if b=true then n+1 else 0);generalize bared (if b=true then n+1 else 0) t=r at *;split
  ·split
   ·exact Nat.zero_le _
   ·omega
  ·split
   ·simp only[List.length_cons];omega
   ·exact Nat.zero_le _
theorem qsf (t:List Bool) (ht:t.length≤1000000):Ev (fun k=>flag_Judge.f k t) (judged t):=by
 have hl:=qob t 0;unfold flag_Judge.f judged;refine Ev.bind (quu t (by omega)) ?_;generalize bared 0 t=r at *;by_cases h:r.2=0
 ·simp only[if_pos h];refine Ev.bind (qqr r.1 (by omega)) ?_;by_cases h8:r.1.length%8=0
  ·simp only[if_pos h8,if_true];have hp:=qb2 (r.1.length/8) r.1;have hb:=qho (r.1.length/8) r.1;generalize octs (r.1.length/8) r.1=p at *;unfold qi6;by_cases h5:p.length<5
   ·simp only[if_pos h5,if_pos (show (p.length:Int)<5 by omega)];exact Ev.now _
   ·simp only[if_neg h5,if_neg (show ¬(p.length:Int)<5 by omega)];by_cases h9:279<p.length
    ·simp only[if_pos h9,if_pos (show (p.length:Int)>279 by omega)];exact Ev.now _
    ·simp only[if_neg h9,if_neg (show ¬(p.length:Int)>279 by omega)];refine Ev.bind (qsc p (by omega) hb) ?_;unfold qo7;have ew:wrap64 ((p.length:Int)-2)=((p.length-2:Nat):Int):=by unfold wrap64;omega
     simp only[ew,if_pos (show 0≤((p.length-2:Nat):Int) by omega),if_pos (show ((p.length-2:Nat):Int)≤(p.length:Int) by omega),Int.toNat_natCast];by_cases hr:(decide (2≤p.length)&&decide (Crc.crc (bitsOf p)=61624))=true
     ·simp only[if_pos hr];exact Ev.now _
     ·simp only[if_neg hr];exact Ev.now _
  ·simp only[if_neg h8,if_neg (show ¬(8:Int)=0 by decide)];exact Ev.now _
 ·simp only[if_neg h];exact Ev.now _
def flagBits:List Bool:=[false,true,true,true,true,true,true,false]
theorem stuffed_len (t:List Bool):∀n,(stuffed n t).length≤2*t.length:=by
 induction t with
 |nil=>intro n;simp[stuffed]
 |cons b t ih =>
  intro n;have h0:=ih 0;have h1:=ih (n+1);simp only[stuffed,List.length_cons]
  repeat' split
  all_goals (simp only[List.length_cons] at *;omega)
theorem qk2 (q:List Int) (hb:∀x∈q,0≤x∧x<256):∀x∈q++chk q,0≤x∧x<256:=by
 intro x hx;rcases List.mem_append.1 hx with h|h
 ·exact hb x h
 ·exact qqd q x h
theorem qqx (q:List Int) (hq:q.length≤1000):(stuffed 0 (bitsOf (q++chk q))).length≤20000:=by
 have h1:=stuffed_len (bitsOf (q++chk q)) 0;have h2:=bitsOf_length (q++chk q);rw[List.length_append,qd3] at h2;omega
theorem qsg (q:List Int) (hq:q.length≤1000) (hb:∀x∈q,0≤x∧x<256):Ev (fun k=>flag_Frame.f k q) (if q.length<3 then ([],5) else if 277<q.length then ([],6) else (stuffed 0 (bitsOf (q++chk q))++flagBits,0)):=by
 unfold flag_Frame.f;have ew:wrap64 ((q.length:Int)+2)=((q.length+2:Nat):Int):=by unfold wrap64;omega
 have hu:=qqx q hq;by_cases h3:q.length<3
 ·simp only[ew,if_pos h3,if_pos (show ((q.length+2:Nat):Int)<5 by omega)];exact Ev.now _
 ·by_cases h9:277<q.length
  ·simp only[ew,if_neg h3,if_pos h9,if_neg (show ¬((q.length+2:Nat):Int)<5 by omega),if_pos (show ((q.length+2:Nat):Int)>279 by omega)];exact Ev.now _
  ·simp only[ew,if_neg h3,if_neg h9,if_neg (show ¬((q.length+2:Nat):Int)<5 by omega),if_neg (show ¬((q.length+2:Nat):Int)>279 by omega)];refine Ev.bind (quo q (by omega) hb) ?_;refine Ev.bind (qse (q++chk q) (by rw[List.length_append,qd3];omega) (qk2 q hb)) ?_;refine Ev.bind (qwl (bitsOf (q++chk q)) (by rw[bitsOf_length,List.length_append,qd3];omega)) ?_;refine Ev.bind (show Ev (fun _=>flag_Flag.f) flagBits from Ev.now _) ?_;have hf:flagBits.length=8:=rfl;simp only[hf,if_pos (show (stuffed 0 (bitsOf (q++chk q))).length+8<140737488355328 by omega)];exact Ev.now _
theorem mstuffed (t:List Bool):∀n,stuffed n t=Sig.stuffed n t:=by
 induction t with
 |nil=>intro n;rfl
 |cons b t ih =>
  intro n;cases b with
  |true =>
   simp only[stuffed,Sig.stuffed,if_true,ih];by_cases h:n=4
   ·rw[if_pos (by omega),if_pos h]
   ·rw[if_neg (by omega),if_neg h]
  |false=>simp[stuffed,Sig.stuffed,ih]
def ints (p:List Nat):List Int:=p.map (fun n:Nat=>(n:Int))
theorem qwe (n j:Nat):ql4 (n:Int) j=n.testBit j:=by
 unfold ql4;rw[Nat.testBit_eq_decide_div_mod_eq,Bool.eq_iff_iff,beq_iff_eq,decide_eq_true_iff];constructor
 ·intro h;exact_mod_cast h
 ·intro h;exact_mod_cast h
theorem qvf (n:Nat):octet (n:Int)=Sig.octet n:=by
 simp[octet,Sig.octet,List.range_succ,qwe]
theorem mbits (p:List Nat):bitsOf (ints p)=Sig.bitsOf p:=by
 induction p with
 |nil=>rfl
 |cons b p ih =>
  show bitsOf ((b:Int)::ints p)=Sig.bitsOf (b::p);rw[qcj,ih,qvf];rfl
theorem mcrc (t:List Bool):Crc.crc t=Sig.crc t:=rfl
theorem qfd (p:List Nat) (hb:∀b∈p,b<256):∀x∈ints p,0≤x∧x<256:=by
 intro x hx;obtain⟨n,hn,rfl⟩:=List.mem_map.1 hx;have:=hb n hn;omega
theorem ints_len (p:List Nat):(ints p).length=p.length:=by simp[ints]
theorem mchk (p:List Nat):chk (ints p)=ints (Sig.chk p):=by
 have hr:=qst (bitsOf (ints p));unfold chk Sig.chk;rw[mbits,mcrc] at *;generalize Sig.crc (Sig.bitsOf p)=r at *;have hx:65535 ^^^ r<65536:=Nat.xor_lt_two_pow (n:=16) (by decide) hr;have hb:∀j,j<16→(65535 ^^^ r).testBit j=!(r.testBit j):=fun j hj=>by
  rw[Nat.testBit_xor,(by decide:∀j,j<16→Nat.testBit 65535 j=true) j hj,Bool.true_xor]
 obtain⟨x,e⟩:∃x,65535 ^^^ r=x:=⟨_,rfl⟩;rw[e] at hx hb ⊢;have key:bitsOf (ints [x%256,x/256])=Crc.tail r:=by
  have h1:∀j,j<8→(x%256).testBit j=!(r.testBit j):=fun j hj=>by
   rw[show 256=2^8 from rfl,Nat.testBit_mod_two_pow,decide_eq_true hj,Bool.true_and,hb j (by omega)]
  have h2:∀j,j<8→(x/256).testBit j=!(r.testBit (j+8)):=fun j hj=>by
   rw[show 256=2^8 from rfl,Nat.testBit_div_two_pow,hb (j+8) (by omega)]
  rw[mbits];simp only[Sig.bitsOf,List.flatMap_cons,List.flatMap_nil,Sig.octet,Crc.tail,Crc.bits16,h1 0 (by decide),h2 0 (by decide),h1 1 (by decide),h2 1 (by decide),h1 2 (by decide),h2 2 (by decide),h1 3 (by decide),h2 3 (by decide),h1 4 (by decide),h2 4 (by decide),h1 5 (by decide),h2 5 (by decide),h1 6 (by decide),h2 6 (by decide),h1 7 (by decide),h2 7 (by decide)];simp[List.range_succ]
 rw[←key];exact qhp (ints [x%256,x/256]) (qfd _ (fun b hb=>by simp at hb;omega))
theorem qvh (t:List Bool):∀n,Sig.bared n t=if (bared n t).2=0 then some (bared n t).1 else none:=by
 induction t with
 |nil=>intro n;simp only[Sig.bared,bared];split <;> simp
 |cons b t ih =>
  intro n;by_cases h5:n=5
  ·have e1:Sig.bared n (b::t)=(if b then none else Sig.bared 0 t):=by
    show (if n=5 then _ else _)=_;rw[if_pos h5]
   have e2:bared n (b::t)=(if b then ([],4) else bared 0 t):=by
    show (if n=5 then _ else _)=_;rw[if_pos h5]
   rw[e1,e2];cases b
   ·exact ih 0
   ·rfl
  ·have e1:Sig.bared n (b::t)=(Sig.bared (if b then n+1 else 0) t).map (b::·):=by
    show (if n=5 then _ else _)=_;rw[if_neg h5]
   have e2:bared n (b::t)=(if (bared (if b then n+1 else 0) t).2=0 then (b::(bared (if b then n+1 else 0) t).1,0) else ([],(bared (if b then n+1 else 0) t).2)):=by
    show (if n=5 then _ else _)=_;rw[if_neg h5]
   rw[e1,e2,ih];generalize bared (if b=true then n+1 else 0) t=r;by_cases h0:r.2=0
   ·rw[if_pos h0,if_pos h0];rfl
   ·rw[if_neg h0,if_neg h0,if_neg (by exact h0)];rfl
theorem low8:∀a b c d e f g h:Bool,low [a,b,c,d,e,f,g,h]=((Sig.bval a+2*Sig.bval b+4*Sig.bval c+8*Sig.bval d+16*Sig.bval e+32*Sig.bval f+64*Sig.bval g+128*Sig.bval h:Nat):Int):=by decide
theorem qth:∀n (t:List Bool),t.length=8*n→octs n t=ints (Sig.octets t):=by
 intro n
 induction n with
 |zero=>intro t ht;obtain rfl:t=[]:=List.eq_nil_of_length_eq_zero (by omega);rfl
 |succ n ih =>
  intro t ht
  match t,ht with
  |a::b::c::d::e::f::g::h::t,ht =>
   have h1:=ih t (by simp only[List.length_cons] at ht;omega);have h2:low (a::b::c::d::e::f::g::h::t)=low [a,b,c,d,e,f,g,h]:=by simp[low]
   show low _::octs n t=ints (_::Sig.octets t);rw[h1,h2,low8];rfl
  |[],ht=>simp at ht
  |[_],ht=>simp at ht;omega
  |[_,_],ht=>simp at ht;omega
  |[_,_,_],ht=>simp at ht;omega
  |[_,_,_,_],ht=>simp at ht;omega
  |[_,_,_,_,_],ht=>simp at ht;omega
  |[_,_,_,_,_,_],ht=>simp at ht;omega
  |[_,_,_,_,_,_,_],ht=>simp at ht;omega
theorem qpr (p:List Nat) (k:Nat):(ints p).take k=ints (p.take k):=by simp[ints,List.map_take]
theorem mjudge (t:List Bool):match Sig.judge t with
  |none=>(judged t).2≠0
  |some p=>judged t=(ints p,0):=by
 unfold Sig.judge judged;rw[qvh];by_cases h0:(bared 0 t).2=0
 ·rw[if_pos h0,if_pos h0];generalize (bared 0 t).1=l;by_cases h8:l.length%8=0
  ·have ho:=qth (l.length/8) l (by omega);have hl:(Sig.octets l).length=l.length/8:=by rw[←ints_len,←ho,qb2]
   have hbb:bitsOf (octs (l.length/8) l)=l:=by rw[qqh _ _ (by omega),List.take_of_length_le (by omega)]
   simp only[h8,ne_eq,not_true,if_false,if_true];unfold qi6;rw[qb2,←hl];by_cases h5:(Sig.octets l).length<5
   ·rw[if_pos (Or.inl h5),if_pos h5];decide
   ·by_cases h9:279<(Sig.octets l).length
    ·rw[if_pos (Or.inr h9),if_neg h5,if_pos h9];decide
    ·rw[if_neg (by omega),if_neg h5,if_neg h9];unfold qo7;rw[hl,hbb,mcrc,qb2,decide_eq_true (show 2≤l.length/8 by omega),Bool.true_and];by_cases hc:Sig.crc l=61624
     ·rw[if_pos hc,if_pos (decide_eq_true hc)];simp only;rw[ho,qpr]
     ·rw[if_neg hc,if_neg (by rw[decide_eq_false hc];decide)];simp only;decide
  ·simp only[h8,ne_eq,not_false_eq_true,if_true,if_false];decide
 ·rw[if_neg h0,if_neg h0];decide
theorem mframe (p:List Nat) (h:3≤p.length∧p.length≤277) (hb:∀b∈p,b<256):∃k,flag_Frame.f k (ints p)=some (Sig.frame p,0):=by
 obtain⟨K,hK⟩:=qsg (ints p) (by rw[ints_len];omega) (qfd p hb);refine⟨K,(hK K (Nat.le_refl _)).trans ?_⟩;rw[ints_len,if_neg (by omega),if_neg (by omega)];unfold Sig.frame;rw[if_neg (by omega),mstuffed,mchk,show ints p++ints (Sig.chk p)=ints (p++Sig.chk p) from by simp[ints],mbits];rfl
theorem mjudges (t:List Bool) (ht:t.length≤1000000):∃k,flag_Judge.f k t=some (judged t):=by
 obtain⟨K,hK⟩:=qsf t ht;exact⟨K,hK K (Nat.le_refl _)⟩
theorem mof (p:List Nat) (hl:p.length≤1000000) (hb:∀b∈p,b<256):∃k,tape_Of.f k (ints p)=some (Sig.bitsOf p):=by
 obtain⟨K,hK⟩:=qse (ints p) (by rw[ints_len];omega) (qfd p hb);exact⟨K,(hK K (Nat.le_refl _)).trans (by rw[mbits])⟩
theorem qkz (t:List Bool):∀n,0≤(bared n t).2:=by
 induction t with
 |nil=>intro n;simp only[bared];split <;> decide
 |cons b t ih =>
  intro n;have h1:=ih 0;have h2:=ih (if b then n+1 else 0);simp only[bared];generalize bared (if b=true then n+1 else 0) t=r at *;generalize bared 0 t=q at *
  repeat' split
  all_goals first|exact h1|exact h2|exact Int.le_refl 0|(show (0:Int)≤4;decide)
theorem judged_nonneg (t:List Bool):0≤(judged t).2:=by
 have h:=qkz t 0;unfold judged qi6
 repeat' split
 all_goals first|exact Int.le_refl 0|(show (0:Int)≤4;decide)|(show (0:Int)≤5;decide)|(show (0:Int)≤6;decide)|(show (0:Int)≤7;decide)|(show (0:Int)≤8;decide)
end Go.Proofs.YtjbijdmcceloaaaGreat.Bits
namespace Go.Proofs.YtjbijdmcceloaaaGreat.Top
open Go Go.RowKit Go.Proofs.YtjbijdmcceloaaaGreat Go.Proofs.YtjbijdmcceloaaaGreatW.PrintWords Go.Proofs.YtjbijdmcceloaaaGreatW.PrintLast Go.Proofs.YtjbijdmcceloaaaGreatW.PrintMore
def bools (l:List Bool):List Value:=l.map Value.bool
theorem qbb (l:List Bool):(bools l).length=l.length:=by simp[bools]
theorem qg0 (l:List Bool):∀u∈bools l,u.oneCell'=true:=by
 intro u hu;obtain⟨b,_,rfl⟩:=List.mem_map.1 hu;rfl
theorem qhx (l:List Bool) (b:Bool):bools l++[.bool b]=bools (l++[b]):=by simp[bools]
theorem qn5 (l:List Bool) (k:Nat):(bools l).take k=bools (l.take k):=by simp[bools,List.map_take]
theorem Rw.reads {w:World} {P:Nat→Prop} {e n c:Nat} {A:Option Addr} {α:Type} {enc:α→Value} {d:α} {l:List α} (h:Rw w P e (.slice A n c) (l.map enc)):n=l.length∧ReadsOf enc d w A l.length l∧l.length≤c:=by
 have hn:n=l.length:=by
  obtain⟨A',c',e,_⟩:=h.slice;simp only[Value.slice.injEq,List.length_map] at e;exact e.2.1
 refine⟨hn,⟨rfl,?_,fun h0=>?_⟩,?_⟩
 ·obtain⟨A',c',e,h1,h2,_⟩:=h.slice;rw[List.length_map] at h1;simp only[maxLen] at h2;omega
 ·obtain⟨g,off,e,hc⟩:=h.cells (by rw[List.length_map];exact h0);refine⟨⟨g,off,none⟩,e,fun j hj=>?_⟩;rw[Addr.add_lit,hc j (enc (l.getD j d)) (by simp[List.getD_eq_getElem?_getD,List.getElem?_eq_getElem hj])]
 ·obtain⟨A',c',e,h1,_⟩:=h.slice;simp only[Value.slice.injEq,List.length_map] at e h1;omega
theorem Rw.of_R {α:Type} {enc:α→Value} {h1:∀x,(enc x).oneCell'=true} {e:Nat} {w:World} {base:Nat} {ok P:Nat→Prop} {v:Value} {xs:List α} (h:(Kd.scalar enc h1).R e w base ok v xs) (hP:∀k,base≤k→P k):Rw w P e v (xs.map enc):=by
 have ho:=Kd.own_of_R h;refine qdj (base:=base) ?_ hP;rw[List.length_map];exact ho
theorem qko (p:List Nat):(Bits.ints p).map (Value.int .u8)=octs p:=by simp[Bits.ints,octs,Function.comp]
theorem Oct.readsI {w:World} {A:Option Addr} {n c:Nat} {l:List Nat} (h:Oct w (.slice A n c) l):n=(Bits.ints l).length∧(Kd.int .u8).C w A (Bits.ints l).length (Bits.ints l)∧(Bits.ints l).length≤c:=by
 have h':Rw w (fun _=>True) 5 (.slice A n c) ((Bits.ints l).map (Value.int .u8)):=by rw[qko];exact h
 obtain⟨a,b,k⟩:=h'.reads (d:=(0:Int));exact⟨a,Kd.C_of_reads (h1:=fun _=>rfl) b,k⟩
theorem qls {w:World} {P:Nat→Prop} {A:Option Addr} {n c:Nat} {t:List Bool} (h:Rw w P 4 (.slice A n c) (bools t)) (ht:t.length≤1000000) :
  Calls Tryz.prog 101 #[.slice A n c] w fun e w'=>∃(v:Value) (k:Nat),e=.returned (.tuple #[v,.int .i64 k])∧(match Sig.judge t with|none=>k≠0|some p=>k=0∧Oct w' v p)∧Below w.heap.size w w':=by
 obtain⟨a,b,hc⟩:=h.reads (enc:=Value.bool) (d:=false);subst a;obtain⟨k,hk⟩:=Bits.mjudges t ht;have hj:=Bits.mjudge t;refine(MTopTotal.flag_Judge.calls k A c t (Bits.judged t).1 (Bits.judged t).2 w (Kd.C_of_reads (h1:=fun _=>rfl) b) hc hk).mono ?_;rintro e w' ⟨v,rfl,hR,hb⟩;cases hs:Sig.judge t with
 |none =>
  rw[hs] at hj;have h0:0≤(Bits.judged t).2:=Bits.judged_nonneg t;refine⟨v,(Bits.judged t).2.toNat,?_,fun h=>hj (by omega),hb⟩;rw[Int.toNat_of_nonneg h0]
 |some p =>
  rw[hs] at hj;simp only at hj;rw[hj] at hR ⊢;refine⟨v,0,rfl,⟨rfl,?_⟩,hb⟩;have:=Rw.of_R (P:=fun _=>True) hR (fun _ _=>trivial);rw[qko] at this;exact this
theorem qlv {w:World} {A:Option Addr} {n c:Nat} {p:List Nat} (h:Oct w (.slice A n c) p) (hl:3≤p.length∧p.length≤277) (hb:∀b∈p,b<256) :
  Calls Tryz.prog 81 #[.slice A n c] w fun e w'=>∃v,e=.returned (.tuple #[v,.int .i64 0])∧Rw w' (fun k=>w.heap.size≤k) 4 v (bools (Sig.frame p))∧Below w.heap.size w w':=by
 obtain⟨a,b,hc⟩:=h.readsI;subst a;obtain⟨k,hk⟩:=Bits.mframe p hl hb;refine(MTopTotal.flag_Frame.calls k A c (Bits.ints p) (Sig.frame p) 0 w b hc hk).mono ?_;rintro e w' ⟨v,rfl,hR,hbw⟩;exact⟨v,rfl,Rw.of_R hR (fun k hk=>hk),hbw⟩
theorem qro {w:World} {A:Option Addr} {n c:Nat} {p:List Nat} (h:Oct w (.slice A n c) p) (hl:p.length≤1000000) (hb:∀b∈p,b<256) :
  Calls Tryz.prog 27 #[.slice A n c] w fun e w'=>∃v,e=.returned v∧Rw w' (fun k=>w.heap.size≤k) 4 v (bools (Sig.bitsOf p))∧Below w.heap.size w w':=by
 obtain⟨a,b,hc⟩:=h.readsI;subst a;obtain⟨k,hk⟩:=Bits.mof p hl hb;refine(MTopTotal.tape_Of.calls k A c (Bits.ints p) (Sig.bitsOf p) w b hc hk).mono ?_;rintro e w' ⟨v,rfl,hR,hbw⟩;exact⟨v,rfl,Rw.of_R hR (fun k hk=>hk),hbw⟩
theorem qnz (w:World):Calls Tryz.prog 46 #[] w fun e w'=>∃v,e=.returned v∧Rw w' (fun k=>w.heap.size≤k) 4 v (bools Sig.flagBits)∧Below w.heap.size w w':=by
 refine(MTopTotal.flag_Flag.calls Sig.flagBits w rfl).mono ?_;rintro e w' ⟨v,rfl,hR,hbw⟩;exact⟨v,rfl,Rw.of_R hR (fun k hk=>hk),hbw⟩
def EB (w:World) (g:Nat) (c0:Value) (rest:List Value) (vin:Value) (ones:Nat) (found:Bool) (n:Nat):Prop:=Blk w g 111 (c0::vin::.int .i64 (ones:Int)::.bool found::.int .i64 (n:Int)::rest)
section
variable {w w':World} {g:Nat} {c0:Value} {rest:List Value} {vin:Value} {ones:Nat} {found:Bool} {n:Nat}
theorem EB.cs (h:EB w g c0 rest vin ones found n):w.cell? ⟨g,1,none⟩=some vin∧w.cell? ⟨g,2,none⟩=some (.int .i64 (ones:Int))∧w.cell? ⟨g,3,none⟩=some (.bool found)∧w.cell? ⟨g,4,none⟩=some (.int .i64 (n:Int))∧w.frozen? ⟨g,1,none⟩=false∧w.frozen? ⟨g,2,none⟩=false∧w.frozen? ⟨g,3,none⟩=false∧w.frozen? ⟨g,4,none⟩=false :=
 ⟨Blk.c h 1 rfl,Blk.c h 2 rfl,Blk.c h 3 rfl,Blk.c h 4 rfl,Blk.f h 1,Blk.f h 2,Blk.f h 3,Blk.f h 4⟩
theorem EB.s1 (h:EB w g c0 rest vin ones found n) (v:Value):EB (w.setCell ⟨g,1,none⟩ v) g c0 rest v ones found n:=Blk.set h 1 v
theorem EB.s2 (h:EB w g c0 rest vin ones found n) (k:Nat) {x:Int} (hx:x=(k:Int)):EB (w.setCell ⟨g,2,none⟩ (.int .i64 x)) g c0 rest vin k found n:=by subst hx;exact Blk.set h 2 (.int .i64 (k:Int))
theorem EB.s3 (h:EB w g c0 rest vin ones found n) (b:Bool):EB (w.setCell ⟨g,3,none⟩ (.bool b)) g c0 rest vin ones b n:=Blk.set h 3 (.bool b)
theorem EB.s4 (h:EB w g c0 rest vin ones found n) (k:Nat) {x:Int} (hx:x=(k:Int)):EB (w.setCell ⟨g,4,none⟩ (.int .i64 x)) g c0 rest vin ones found k:=by subst hx;exact Blk.set h 4 (.int .i64 (k:Int))
theorem EB.only {Q:Nat→Prop} (h:EB w g c0 rest vin ones found n) (ho:Only Q w w') (hq:¬Q g):EB w' g c0 rest vin ones found n:=Blk.only h ho hq
theorem EB.alloc (h:EB w g c0 rest vin ones found n) (o:Obj):EB (w.alloc o) g c0 rest vin ones found n:=h.only ((Only.refl (fun _=>False) w).alloc o) (fun h=>h)
end
abbrev qbo (k:Nat) (v:Value) (b:Bool):Value:=.tuple #[.agg #[.int .u8 (k:Int),v],.bool b]
theorem qd7 {w:World} {g:Nat} {c0:Value} {rest:List Value} {vin:Value} {ones:Nat} {found:Bool} {n:Nat} (h:EB w g c0 rest vin ones found n):Calls Tryz.prog 72 #[.pointer (some ⟨g,1,none⟩)] w fun e w'=>e=.returned (.bool (!found))∧w=w':=by
 obtain⟨c1,c2,c3,c4,f1,f2,f3,f4⟩:=h.cs;clear h;go_enter Tryz.func72,Tryz.ntmps72;go_wp2;go_ret;exact⟨rfl,rfl⟩
theorem qhr {w:World} {g:Nat} {c0:Value} {rest:List Value} {vin:Value} {ones:Nat} {found:Bool} {n:Nat} (h:EB w g c0 rest vin ones found n):Calls Tryz.prog 74 #[.pointer (some ⟨g,1,none⟩)] w fun e w'=>e=.returned (.tuple #[])∧EB w' g c0 rest (.slice none 0 0) ones false 0∧Only (·=g) w w':=by
 obtain⟨c1,c2,c3,c4,f1,f2,f3,f4⟩:=h.cs;have H:=am h;clear h;go_enter Tryz.func74,Tryz.ntmps74;go_wp2;go_end0;exact⟨rfl,((H.out.s3 false).s1 _).s4 0 rfl,(((Only.refl (·=g) w).set rfl _).set rfl _).set rfl _⟩
theorem qr5 {w:World} {g:Nat} {c0:Value} {rest:List Value} {vin:Value} {ones:Nat} {n:Nat} (h:EB w g c0 rest vin ones false n) (ho:ones<1000000000) (hn:n<128) (h1:n+1≠128) :
  Calls Tryz.prog 73 #[.pointer (some ⟨g,1,none⟩),.bool true] w fun e w'=>e=.returned (qbo 0 (.slice none 0 0) false)∧EB w' g c0 rest vin (ones+1) false (n+1)∧Only (·=g) w w':=by
 have hg:=Blk.lt h;obtain⟨c1,c2,c3,c4,f1,f2,f3,f4⟩:=h.cs;have e7:(((n:Nat):Int)+1==128)=false:=beq_eq_false_iff_ne.2 (by omega);have e8:(n+1==128)=false:=beq_eq_false_iff_ne.2 (by omega);have H:=am h;clear h;go_enter Tryz.func73,Tryz.ntmps73;go_wp2;refine bodyPost_ret (v:=qbo 0 (.slice none 0 0) false) (by simp[results,Tryz.results73,go_sem]) rfl ⟨rfl,?_,?_⟩
 ·exact((H.out.s2 (ones+1) (by omega)).s4 (n+1) (by omega)).alloc _
 ·exact((((Only.refl (·=g) w).set rfl _).set rfl _).alloc _)
theorem ql0 {w:World} {g:Nat} {c0:Value} {rest:List Value} {vin:Value} {ones:Nat} {n:Nat} (h:EB w g c0 rest vin ones false n) (ho:ones<1000000000) (hn:n<128) (h1:n+1=128) :
  Calls Tryz.prog 73 #[.pointer (some ⟨g,1,none⟩),.bool true] w fun e w'=>e=.returned (qbo 2 (.slice none 0 0) true)∧EB w' g c0 rest vin (ones+1) false 0∧Only (·=g) w w':=by
 have hg:=Blk.lt h;obtain⟨c1,c2,c3,c4,f1,f2,f3,f4⟩:=h.cs;have e7:(((n:Nat):Int)+1==128)=true:=beq_iff_eq.2 (by omega);have e8:(n+1==128)=true:=beq_iff_eq.2 (by omega);have H:=am h;clear h;go_enter Tryz.func73,Tryz.ntmps73;go_wp2;refine bodyPost_ret (v:=qbo 2 (.slice none 0 0) true) (by simp[results,Tryz.results73,go_sem]) rfl ⟨rfl,?_,?_⟩
 ·exact(((H.out.s2 (ones+1) (by omega)).s4 (n+1) (by omega)).s4 0 rfl).alloc _
 ·exact(((((Only.refl (·=g) w).set rfl _).set rfl _).set rfl _).alloc _)
theorem qn2 {w:World} {g:Nat} {c0:Value} {rest:List Value} {vin:Value} {ones:Nat} {n:Nat} (h:EB w g c0 rest vin ones false n) (ho:ones<1000000000) (hn:n<128) (h6:ones=6) :
  Calls Tryz.prog 73 #[.pointer (some ⟨g,1,none⟩),.bool false] w fun e w'=>e=.returned (qbo 0 (.slice none 0 0) false)∧EB w' g c0 rest (.slice none 0 0) 0 true 0∧Only (·=g) w w':=by
 have hg:=Blk.lt h;obtain⟨c1,c2,c3,c4,f1,f2,f3,f4⟩:=h.cs;have s1:=b_t ones 6 (by omega);have s2:(ones==6)=true:=beq_iff_eq.2 (by omega);have H:=am h;clear h;go_enter Tryz.func73,Tryz.ntmps73;go_wp2;refine bodyPost_ret (v:=qbo 0 (.slice none 0 0) false) (by simp[results,Tryz.results73,go_sem]) rfl ⟨rfl,?_,?_⟩
 ·exact(((((H.out.s2 (ones+1) (by omega)).s2 0 rfl).s3 true).s1 (.slice none 0 0)).s4 0 rfl).alloc _
 ·exact(((((((Only.refl (·=g) w).set rfl _).set rfl _).set rfl _).set rfl _).set rfl _).alloc _)
theorem qqa {w:World} {g:Nat} {c0:Value} {rest:List Value} {vin:Value} {ones:Nat} {n:Nat} (h:EB w g c0 rest vin ones false n) (ho:ones<1000000000) (hn:n<128) (h6:ones≠6) (h1:n+1≠128) :
  Calls Tryz.prog 73 #[.pointer (some ⟨g,1,none⟩),.bool false] w fun e w'=>e=.returned (qbo 0 (.slice none 0 0) false)∧EB w' g c0 rest vin 0 false (n+1)∧Only (·=g) w w':=by
 have hg:=Blk.lt h;obtain⟨c1,c2,c3,c4,f1,f2,f3,f4⟩:=h.cs;have s1:=b_f ones 6 (by omega);have s2:(ones==6)=false:=beq_eq_false_iff_ne.2 (by omega);have e7:(((n:Nat):Int)+1==128)=false:=beq_eq_false_iff_ne.2 (by omega);have e8:(n+1==128)=false:=beq_eq_false_iff_ne.2 (by omega);have H:=am h;clear h;go_enter Tryz.func73,Tryz.ntmps73;go_wp2;refine bodyPost_ret (v:=qbo 0 (.slice none 0 0) false) (by simp[results,Tryz.results73,go_sem]) rfl ⟨rfl,?_,?_⟩
 ·exact(((H.out.s2 (ones+1) (by omega)).s2 0 rfl).s4 (n+1) (by omega)).alloc _
 ·exact(((((Only.refl (·=g) w).set rfl _).set rfl _).set rfl _).alloc _)
theorem qku {w:World} {g:Nat} {c0:Value} {rest:List Value} {vin:Value} {ones:Nat} {n:Nat} (h:EB w g c0 rest vin ones false n) (ho:ones<1000000000) (hn:n<128) (h6:ones≠6) (h1:n+1=128) :
  Calls Tryz.prog 73 #[.pointer (some ⟨g,1,none⟩),.bool false] w fun e w'=>e=.returned (qbo 2 (.slice none 0 0) true)∧EB w' g c0 rest vin 0 false 0∧Only (·=g) w w':=by
 have hg:=Blk.lt h;obtain⟨c1,c2,c3,c4,f1,f2,f3,f4⟩:=h.cs;have s1:=b_f ones 6 (by omega);have s2:(ones==6)=false:=beq_eq_false_iff_ne.2 (by omega);have e7:(((n:Nat):Int)+1==128)=true:=beq_iff_eq.2 (by omega);have e8:(n+1==128)=true:=beq_iff_eq.2 (by omega);have H:=am h;clear h;go_enter Tryz.func73,Tryz.ntmps73;go_wp2;refine bodyPost_ret (v:=qbo 2 (.slice none 0 0) true) (by simp[results,Tryz.results73,go_sem]) rfl ⟨rfl,?_,?_⟩
 ·exact((((H.out.s2 (ones+1) (by omega)).s2 0 rfl).s4 (n+1) (by omega)).s4 0 rfl).alloc _
 ·exact((((((Only.refl (·=g) w).set rfl _).set rfl _).set rfl _).set rfl _).alloc _)
theorem Rw.take {w:World} {P:Nat→Prop} {e n c:Nat} {A:Option Addr} {us:List Value} (h:Rw w P e (.slice A n c) us) (m:Nat) (hm:m≤us.length) (h0:0<us.length):Rw w P e (.slice A m c) (us.take m):=by
 rcases h with ⟨_,h⟩|⟨g,off,c',cells,e1,h1,h2,⟨fr,h3,hf⟩,h4,h5,h6⟩
 ·subst h;simp at h0
 ·simp only[Value.slice.injEq] at e1;obtain⟨rfl,rfl,rfl⟩:=e1;refine Or.inr ⟨g,off,c,cells,by rw[List.length_take,Nat.min_eq_left hm],by rw[List.length_take];omega,h2,⟨fr,h3,hf⟩,h4,fun j u hj=>?_,h6⟩;have hlt:=(List.getElem?_eq_some_iff.1 hj).1;rw[List.length_take] at hlt;rw[List.getElem?_take,if_pos (by omega)] at hj;exact h5 j u hj
theorem qo3 (A:Option Addr) (n c m:Nat) (hm:m≤c) (W:World):(Instr.slice 94 (.slice A n c) none (some (.int .i64 (m:Int))) none).run Tryz.prog W=.ok (.slice A m c) W:=by
 have hel:Tryz.prog.elem 94=4:=by simp[Program.elem,el4.ht]
 have hu:Tryz.prog.underlying 94=some (.slice (Tryz.prog.elem 94)):=by rw[hel];exact el4.ht
 obtain⟨i0,hi,_,hsz,_⟩:=info_parts el4.info;rw[run_slice_h W 94 A n c hu .i64 (m:Int) (by omega) (by omega),hel];simp[sizeOf,typeInfo,hi,hsz,sliced,Result.andThen];intro _;cases A with
 |none=>rfl
 |some a=>simp[Addr.add]
def HeardIs (r:Option (Option (List Nat))) (k:Nat) (v:Value) (w:World):Prop:=match r with
 |none=>k=0∧v=.slice none 0 0
 |some none=>(k=1∨k=2)∧v=.slice none 0 0
 |some (some p)=>k=0∧Oct w v p
theorem qlx {w:World} {g:Nat} {c0:Value} {rest:List Value} {vin:Value} {ones:Nat} {found:Bool} {n:Nat} {P:Nat→Prop} {t:List Bool} (h:EB w g c0 rest vin ones found n) (hr:Rw w P 4 vin (bools t)) (hl:t.length≤100000) :
  Calls Tryz.prog 75 #[.pointer (some ⟨g,1,none⟩)] w fun e w'=>∃k v,e=.returned (qbo k v (if t.length≤8 then none else some (Sig.judge (t.take (t.length-8)))).isSome)∧HeardIs (if t.length≤8 then none else some (Sig.judge (t.take (t.length-8)))) k v w'∧EB w' g c0 rest (.slice none 0 0) ones found n∧Only (·=g) w w':=by
 obtain⟨m,hm⟩:∃m,t.length=m:=⟨_,rfl⟩;rw[hm] at hl ⊢;obtain⟨A,c,rfl,hc,-,-⟩:=hr.slice;have hbl:=qbb t;rw[hm] at hbl;rw[hbl] at hc hr h;have hg:=Blk.lt h;obtain⟨c1,c2,c3,c4,f1,f2,f3,f4⟩:=h.cs;have H:=am h;have HR:=am hr;have HM:=am hm;have HBL:=am hbl;clear h hr hm hbl;by_cases h8:m≤8
 ·have d1:decide ((m:Int)≤8)=true:=decide_eq_true (by omega);rw[if_pos h8];have H8:=am h8;clear h8;go_enter Tryz.func75,Tryz.ntmps75
  go_wp2_with fail
  go_wp2;refine bodyPost_ret (v:=qbo 0 (.slice none 0 0) false) (by simp[results,Tryz.results75,go_sem]) rfl ⟨0,.slice none 0 0,rfl,⟨rfl,rfl⟩,?_,?_⟩
  ·exact(H.out.s1 _).alloc _
  ·exact(((Only.refl (·=g) w).set rfl _).alloc _)
 have d1:decide ((m:Int)≤8)=false:=decide_eq_false (by omega);rw[if_neg h8];obtain⟨q,hq⟩:∃q,m-8=q:=⟨_,rfl⟩;rw[hq];have ew:wrap64 ((m:Int)-8)=((q:Nat):Int):=by unfold wrap64;omega
 have hcut:=qo3 A m c q (by omega);have HQ:qac (q≤m∧0<m):=⟨by omega⟩;have HL:=am hl;obtain⟨r,hrj⟩:∃r,Sig.judge (t.take q)=r:=⟨_,rfl⟩;rw[hrj];have HRJ:=am hrj;clear h8 hq hl hrj;go_enter Tryz.func75,Tryz.ntmps75
 go_wp2_with fail
 have hoW:Only (·=g) w ((w.setCell ⟨g,1,none⟩ (.slice none 0 0)).alloc (.cells #[.int .u8 0,.slice none 0 0] 135)):=((Only.refl (·=g) w).set rfl _).alloc _;have HE:qac (EB ((w.setCell ⟨g,1,none⟩ (.slice none 0 0)).alloc (.cells #[.int .u8 0,.slice none 0 0] 135)) g c0 rest (.slice none 0 0) ones found n):=⟨(H.out.s1 _).alloc _⟩;have BX:qac (Blk ((w.setCell ⟨g,1,none⟩ (.slice none 0 0)).alloc (.cells #[.int .u8 0,.slice none 0 0] 135)) w.heap.size 135 [.int .u8 0,.slice none 0 0]):=⟨blk_new (qa0 _ _ _)⟩;have HT:qac (Rw ((w.setCell ⟨g,1,none⟩ (.slice none 0 0)).alloc (.cells #[.int .u8 0,.slice none 0 0] 135)) P 4 (.slice A q c) (bools (t.take q))):=⟨by rw[←qn5];exact(HR.out.take q (by rw[HBL.out];exact HQ.out.1) (by rw[HBL.out];exact HQ.out.2)).only hoW (fun k _ ht _ e=>by have e:k=g:=e;subst e;exact absurd (ht.ne (Blk.typed H.out)) (by decide))⟩;have HOW:=am hoW;clear hoW c1 c2 c3 c4 f1 f2 f3 f4 hcut ew;generalize ((w.setCell ⟨g,1,none⟩ (.slice none 0 0)).alloc (.cells #[.int .u8 0,.slice none 0 0] 135))=W at *;obtain⟨B,hB⟩:∃B,w.heap.size=B:=⟨_,rfl⟩;have HBB:=am hB;rw[hB] at BX ⊢;clear hB;refine(qls HT.out (by rw[List.length_take];have:=HL.out;have:=HM.out;omega)).mono ?_;rw[HRJ.out];rintro e w1 ⟨vv,kk,rfl,hj,hb⟩;have HE1:=am (HE.out.only (qag hb) (fun h=>h));have BX1:=am (BX.out.only (qag hb) (fun h=>h));have HO1:qac (Only (·=g) w w1):=⟨HOW.out.trans ((qag hb).mono (fun _ h=>h.elim))⟩;have b0:=BX1.out.c 0 rfl;have b1:=BX1.out.c 1 rfl;have bf:=BX1.out.f;have HGB:qac (g≠B):=⟨by have:=HBB.out;omega⟩;clear hb;cases r with
 |none =>
  have e1:(((kk:Nat):Int) != 0)=true:=bne_iff_ne.2 (by intro h;exact hj (by omega));clear hj;go_wp2;have hs:Only (fun k=>k=B) w1 ((w1.setCell ⟨B,0,none⟩ (.int .u8 1)).setCell ⟨B,1,none⟩ (.slice none 0 0)):=((Only.refl (fun k=>k=B) w1).set rfl _).set rfl _;refine bodyPost_ret (v:=qbo 1 (.slice none 0 0) true) (by simp[results,Tryz.results75,go_sem,b0,b1,bf]) rfl ⟨1,.slice none 0 0,rfl,?_,HE1.out.only hs HGB.out,?_⟩
  ·exact⟨Or.inl rfl,rfl⟩
  ·exact⟨hs.os.trans HO1.out.os,hs.tape.trans HO1.out.tape,hs.output.trans HO1.out.output,Nat.le_trans HO1.out.size hs.size,fun k hk hn=>(hs.block k (Nat.lt_of_lt_of_le hk HO1.out.size) (fun e=>by have:=HBB.out;omega)).trans (HO1.out.block k hk hn)⟩
 |some p =>
  obtain⟨rfl,ho⟩:=hj;obtain⟨Av,cv,rfl,-,-,-⟩:=ho.slice;obtain⟨pl,hpl⟩:∃k,p.length=k:=⟨_,rfl⟩;rw[hpl] at ho ⊢;have HOO:=am ho;have e1:(((0:Nat):Int) != 0)=false:=rfl;clear ho hpl;go_wp2;have hs:Only (fun k=>k=B) w1 ((w1.setCell ⟨B,0,none⟩ (.int .u8 0)).setCell ⟨B,1,none⟩ (.slice Av pl cv)):=((Only.refl (fun k=>k=B) w1).set rfl _).set rfl _;refine bodyPost_ret (v:=qbo 0 (.slice Av pl cv) true) (by simp[results,Tryz.results75,go_sem,b0,b1,bf]) rfl ⟨0,.slice Av pl cv,rfl,?_,HE1.out.only hs HGB.out,?_⟩
  ·exact⟨rfl,HOO.out.only hs (fun k e ht=>by subst e;exact absurd (ht.ne BX1.out.typed) (by decide))⟩
  ·exact⟨hs.os.trans HO1.out.os,hs.tape.trans HO1.out.tape,hs.output.trans HO1.out.output,Nat.le_trans HO1.out.size hs.size,fun k hk hn=>(hs.block k (Nat.lt_of_lt_of_le hk HO1.out.size) (fun e=>by have:=HBB.out;omega)).trans (HO1.out.block k hk hn)⟩
structure EarIs (w:World) (g:Nat) (c0:Value) (rest:List Value) (P:Nat→Prop) (e:Sig.Ear):Prop where
 ex:∃vin,EB w g c0 rest vin e.ones e.found e.n∧Rw w P 4 vin (bools e.inb.reverse)
 len:e.len=e.inb.length
def BW (g:Nat) (P:Nat→Prop) (w:World) (k:Nat):Prop:=k=g∨(P k∧Typed w k 4)
def qjk (w:World) (g:Nat) (c0:Value) (rest:List Value) (P:Nat→Prop) (e1:Sig.Ear) (r:Option (Option (List Nat))) (e:Ending) (w':World):Prop:=∃k v,e=.returned (qbo k v r.isSome)∧HeardIs r k v w'∧EarIs w' g c0 rest (qbe P w w') e1∧Only (BW g P w) w w'
theorem HeardIs.only {r:Option (Option (List Nat))} {k:Nat} {v:Value} {w w':World} {Q:Nat→Prop} (h:HeardIs r k v w) (ho:Only Q w w') (hq:qca Q w):HeardIs r k v w':=by
 rcases r with _|(_|p)
 ·exact h
 ·exact h
 ·exact⟨h.1,h.2.only ho hq⟩
theorem HeardIs.sl {r:Option (Option (List Nat))} {k:Nat} {v:Value} {w:World} (h:HeardIs r k v w):∃A n c,v=.slice A n c:=by
 rcases r with _|(_|p)
 ·exact⟨_,_,_,h.2⟩
 ·exact⟨_,_,_,h.2⟩
 ·obtain⟨A,c,e,_⟩:=h.2.slice;exact⟨A,_,c,e⟩
theorem qfh {w w2:World} {g B:Nat} {c0 v2 v a b:Value} {rest cs:List Value} {P:Nat→Prop} {e1:Sig.Ear} {r:Option (Option (List Nat))} {k:Nat} (hB:w.heap.size=B) (ho:Only (BW g P w) w w2) (he:EB w2 g c0 rest v2 e1.ones e1.found e1.n) (hr:Rw w2 (qbe P w w2) 4 v2 (bools e1.inb.reverse)) (hl:e1.len=e1.inb.length) (bx:Blk w2 B 135 cs) (hh:HeardIs r k v w2) :
  qjk w g c0 rest P e1 r (.returned (qbo k v r.isSome)) ((w2.setCell ⟨B,0,none⟩ a).setCell ⟨B,1,none⟩ b):=by
 have hs:Only (fun k=>k=B) w2 ((w2.setCell ⟨B,0,none⟩ a).setCell ⟨B,1,none⟩ b):=((Only.refl (fun k=>k=B) w2).set rfl _).set rfl _;have hz:((w2.setCell ⟨B,0,none⟩ a).setCell ⟨B,1,none⟩ b).heap.size=w2.heap.size:=(qa0 _ _ _).trans (qa0 _ _ _);have ne:∀k t,Typed w2 k t→t≠135→¬k=B:=fun k t ht hn e=>by subst e;exact hn (ht.ne bx.typed)
 refine⟨k,v,rfl,hh.only hs (fun k e ht=>ne k 5 ht (by decide) e),⟨⟨v2,he.only hs (ne g 111 (Blk.typed he) (by decide)),?_⟩,hl⟩,?_⟩
 ·refine(hr.only hs (fun k _ ht _=>ne k 4 ht (by decide))).mono (fun k hk _ _ _=>?_);rcases hk with hk|hk
  ·exact Or.inl hk
  ·exact Or.inr ⟨hk.1,by rw[hz];exact hk.2⟩
 ·exact⟨hs.os.trans ho.os,hs.tape.trans ho.tape,hs.output.trans ho.output,Nat.le_trans ho.size hs.size,fun k hk hn=>(hs.block k (Nat.lt_of_lt_of_le hk ho.size) (fun e=>by omega)).trans (ho.block k hk hn)⟩
theorem qkr {w:World} {g:Nat} {c0:Value} {rest:List Value} {P:Nat→Prop} {e:Sig.Ear} (h:EarIs w g c0 rest P e) (hf:e.found=false) (ho:e.ones<1000000000) (hn:e.n<128) (on:Bool) :
  Calls Tryz.prog 73 #[.pointer (some ⟨g,1,none⟩),.bool on] w fun x w'=>∃k,x=.returned (qbo k (.slice none 0 0) (e.bit on).2.isSome)∧HeardIs (e.bit on).2 k (.slice none 0 0) w'∧EarIs w' g c0 rest P (e.bit on).1∧Only (·=g) w w':=by
 obtain⟨⟨vin,he,hr⟩,hl⟩:=h;obtain⟨inb,len,ones,found,n⟩:=e;simp only at hf ho hn hl he hr;subst hf;have hne:∀k,Typed w k 4→¬k=g:=fun k ht e=>by subst e;exact absurd (ht.ne (Blk.typed he)) (by decide)
 cases on with
 |true =>
  by_cases h1:n+1=128
  ·have hb:Sig.Ear.bit ⟨inb,len,ones,false,n⟩ true=(⟨inb,len,ones+1,false,0⟩,some none):=by simp[Sig.Ear.bit,h1]
   rw[hb];refine(ql0 he ho hn h1).mono ?_;rintro x w' ⟨rfl,he',ho'⟩;exact⟨2,rfl,⟨Or.inr rfl,rfl⟩,⟨⟨vin,he',hr.only ho' (fun k _ ht _=>hne k ht)⟩,hl⟩,ho'⟩
  ·have hb:Sig.Ear.bit ⟨inb,len,ones,false,n⟩ true=(⟨inb,len,ones+1,false,n+1⟩,none):=by simp[Sig.Ear.bit,h1]
   rw[hb];refine(qr5 he ho hn h1).mono ?_;rintro x w' ⟨rfl,he',ho'⟩;exact⟨0,rfl,⟨rfl,rfl⟩,⟨⟨vin,he',hr.only ho' (fun k _ ht _=>hne k ht)⟩,hl⟩,ho'⟩
 |false =>
  by_cases h6:ones=6
  ·have hb:Sig.Ear.bit ⟨inb,len,ones,false,n⟩ false=(⟨[],0,0,true,0⟩,none):=by simp[Sig.Ear.bit,h6]
   rw[hb];refine(qn2 he ho hn h6).mono ?_;rintro x w' ⟨rfl,he',ho'⟩;exact⟨0,rfl,⟨rfl,rfl⟩,⟨⟨_,he',Rw.nil _ _ _⟩,rfl⟩,ho'⟩
  ·by_cases h1:n+1=128
   ·have hb:Sig.Ear.bit ⟨inb,len,ones,false,n⟩ false=(⟨inb,len,0,false,0⟩,some none):=by simp[Sig.Ear.bit,h6,h1]
    rw[hb];refine(qku he ho hn h6 h1).mono ?_;rintro x w' ⟨rfl,he',ho'⟩;exact⟨2,rfl,⟨Or.inr rfl,rfl⟩,⟨⟨vin,he',hr.only ho' (fun k _ ht _=>hne k ht)⟩,hl⟩,ho'⟩
   ·have hb:Sig.Ear.bit ⟨inb,len,ones,false,n⟩ false=(⟨inb,len,0,false,n+1⟩,none):=by simp[Sig.Ear.bit,h6,h1]
    rw[hb];refine(qqa he ho hn h6 h1).mono ?_;rintro x w' ⟨rfl,he',ho'⟩;exact⟨0,rfl,⟨rfl,rfl⟩,⟨⟨vin,he',hr.only ho' (fun k _ ht _=>hne k ht)⟩,hl⟩,ho'⟩
theorem EarIs.below {w w':World} {g:Nat} {c0:Value} {rest:List Value} {P:Nat→Prop} {e:Sig.Ear} (h:EarIs w g c0 rest P e) (hb:Below w.heap.size w w'):EarIs w' g c0 rest P e:=by
 obtain⟨⟨vin,he,hr⟩,hl⟩:=h;exact⟨⟨vin,he.only (qag hb) (fun h=>h),hr.below hb⟩,hl⟩
theorem qr9 {w:World} {g:Nat} {c0:Value} {rest:List Value} {P:Nat→Prop} {e:Sig.Ear} (h:EarIs w g c0 rest P e) (hf:e.found=false) (ho:e.ones<1000000000) (hn:e.n<128) (on:Bool) :
  Calls Tryz.prog 49 #[.pointer (some ⟨g,1,none⟩),.bool on] w (qjk w g c0 rest P (e.bit on).1 (e.bit on).2):=by
 have H:=am h;have HF:=am hf;have HO:=am ho;have HN:=am hn;clear h hf ho hn;go_enter Tryz.func49,Tryz.ntmps49;refine sq fun K0 J0=>?_
 go_wp2_with fail
 refine J0.out _ _ ?_;clear J0;have hbW:Below w.heap.size w (w.alloc (.cells #[.int .u8 0,.slice none 0 0] 135)):=qaa (Below.refl _ _) _;have BX:qac (Blk (w.alloc (.cells #[.int .u8 0,.slice none 0 0] 135)) w.heap.size 135 [.int .u8 0,.slice none 0 0]):=⟨heap_alloc_new w _⟩;have HB:=am hbW;have HE:=am (H.out.below hbW);have HWS:qac ((w.alloc (.cells #[.int .u8 0,.slice none 0 0] 135)).heap.size=w.heap.size+1):=⟨by simp[World.alloc_eq]⟩;clear hbW;generalize w.alloc (.cells #[.int .u8 0,.slice none 0 0] 135)=W at *;obtain⟨B,hB⟩:∃B,w.heap.size=B:=⟨_,rfl⟩;have HBB:=am hB;rw[hB] at BX ⊢;clear hB;obtain⟨vin,he,-⟩:=HE.out.ex;rw[HF.out] at he
 go_wp2_with fail
 refine(qd7 he).mono ?_;rintro x w1 ⟨rfl,rfl⟩;clear he
 go_wp2_with fail
 refine(qkr HE.out HF.out HO.out HN.out on).mono ?_;rintro x w1 ⟨k,rfl,hh,he,ho⟩;obtain⟨v2,he2,hr2⟩:=he.ex;have hlen:=he.len;have hgB:¬B=g:=fun e=>by
  obtain⟨v3,he3,-⟩:=HE.out.ex;subst e;exact absurd (BX.out.typed.ne (Blk.typed he3)) (by decide)
 have BX1:=am (BX.out.only ho hgB);have b0:=BX1.out.c 0 rfl;have b1:=BX1.out.c 1 rfl;have bf:=BX1.out.f;have HH:=am hh;have HE2:=am he2;have HR2:=am hr2;have HLN:=am hlen;have HO2:qac (Only (BW g P w) w w1):=⟨((qag HB.out).mono (fun _ h=>h.elim)).trans (ho.mono (fun k e=>Or.inl e))⟩;clear hh he2 hr2 hlen he ho hgB;obtain⟨e1,he1⟩:∃p,e.bit on=p:=⟨_,rfl⟩;rw[he1] at HE2 HR2 HLN HH ⊢;have HE1:=am he1;clear he1;obtain⟨bb,hbb⟩:∃b,e1.2.isSome=b:=⟨_,rfl⟩;rw[hbb];have HBO:=am hbb;clear hbb;go_wp2;refine bodyPost_ret (v:=qbo k (.slice none 0 0) bb) (by simp[results,Tryz.results49,go_sem,b0,b1,bf]) rfl ?_;rw[←HBO.out,HE1.out];exact qfh HBB.out HO2.out HE2.out (HR2.out.mono (fun k hk _ _ _=>Or.inl hk)) HLN.out BX1.out HH.out
theorem qiq {w w':World} {P:Nat→Prop} {v:Value} {l:List Bool} (h:Rw w P 4 v (bools l)) {g t:Nat} {cs:List Value} (hb:Blk w g t cs) (ht:t≠4) (ho:Only (·=g) w w'):Rw w' P 4 v (bools l) :=
 h.only ho (fun k _ hk _ e=>by have e:k=g:=e;subst e;exact ht (hb.typed.ne hk))
theorem qn9 {w W:World} {g B:Nat} {c0:Value} {rest:List Value} {P:Nat→Prop} {A:Option Addr} {n c:Nat} {l:List Bool} {o:Nat} {f:Bool} {m:Nat} {cs:List Value} (hB:w.heap.size=B) (hbW:Below w.heap.size w W) (he:EB W g c0 rest (.slice A n c) o f m) (hr:Rw W P 4 (.slice A n c) (bools l)) (hP:∀k,P k→k<w.heap.size) (bx:Blk W B 135 cs) (hl:l.length≤100000) (b:Bool) :
  ∃A1 c1 w1,(Builtin.append_ #[94,94] 94 #[.slice A n c,.slice (some ⟨W.heap.size,0,none⟩) 1 1]).run Tryz.prog (W.alloc (.cells #[.bool b] 4))=.ok (.slice A1 (l.length+1) c1) w1∧Rw w1 (qbe P w w1) 4 (.slice A1 (l.length+1) c1) (bools (l++[b]))∧EB w1 g c0 rest (.slice A n c) o f m∧Blk w1 B 135 cs∧Only (BW g P w) w w1:=by
 have hba:Below W.heap.size W (W.alloc (.cells #[.bool b] 4)):=qaa (Below.refl _ _) _;have hsz2:(W.alloc (.cells #[.bool b] 4)).heap.size=W.heap.size+1:=by simp[World.alloc_eq]
 have hsz:=hbW.size;obtain⟨v1,w1,hrun,hR1,hO1,hat⟩:=Rw.append el4 94 (P:=fun k=>P k∨W.heap.size≤k) ((hr.below hba).mono (fun k hk _ _ _=>Or.inl hk)) (qfg W (fun _=>True) trivial 4 (.bool b)) (fun q hq=>by rw[List.mem_singleton.1 hq];rfl) (qg0 l) (by rw[qbb];simp only[List.length_singleton];omega) (fun k hk=>Or.inr (by omega));rw[qhx] at hR1;obtain⟨A1,c1,e1,-,-,hty⟩:=hR1.slice;rw[qbb,List.length_append,List.length_singleton] at e1;subst e1;have hty0:∀k,qau (.slice A n c)=some k→Typed W k 4∧P k:=by
  intro k hk;obtain⟨A',c',e,_,_,h⟩:=hr.slice;exact⟨(h k hk).2.1,(h k hk).1⟩
 have hne:∀k t,Typed W k t→t≠4→¬qau (.slice A n c)=some k:=fun k t ht hn e=>hn (ht.ne (hty0 k e).1);refine⟨A1,c1,w1,hrun,hR1.mono (fun k hk _ hlt _=>?_),(he.only (qag hba) (fun h=>h)).only hO1 (hne g 111 (Blk.typed he) (by decide)),(bx.only (qag hba) (fun h=>h)).only hO1 (hne B 135 bx.typed (by decide)),?_⟩
 ·rcases hk with hk|hk
  ·exact Or.inl hk
  ·exact Or.inr ⟨by omega,hlt⟩
 ·refine⟨hO1.os.trans (hba.os.trans hbW.os),hO1.tape.trans (hba.tape.trans hbW.tape),hO1.output.trans (hba.output.trans hbW.output),by have:=hO1.size;omega,fun k hk hn=>?_⟩;refine(hO1.block k (by omega) (fun e=>hn (Or.inr ⟨(hty0 k e).2,?_⟩))).trans ((hba.block k (by omega)).trans (hbW.block k hk));obtain⟨cs',fr',hc'⟩:=(hty0 k e).1;exact⟨cs',fr',(hbW.block k hk).symm.trans hc'⟩
theorem qqj {w:World} {g:Nat} {c0:Value} {rest:List Value} {P:Nat→Prop} {e:Sig.Ear} (h:EarIs w g c0 rest P e) (hP:∀k,P k→k<w.heap.size) (hf:e.found=true) (ho:e.ones<1000000000) (hl:e.len≤3000) (on:Bool) :
  Calls Tryz.prog 49 #[.pointer (some ⟨g,1,none⟩),.bool on] w (qjk w g c0 rest P (e.bit on).1 (e.bit on).2):=by
 have H:=am h;have HF:=am hf;have HP:=am hP;have HLE:=am (show e.inb.reverse.length=e.len from by rw[List.length_reverse];exact h.len.symm);clear h hf hP;go_enter Tryz.func49,Tryz.ntmps49;refine sq fun K0 J0=>?_
 go_wp2_with fail
 refine J0.out _ _ ?_;clear J0;have hbW:Below w.heap.size w (w.alloc (.cells #[.int .u8 0,.slice none 0 0] 135)):=qaa (Below.refl _ _) _;have BX:qac (Blk (w.alloc (.cells #[.int .u8 0,.slice none 0 0] 135)) w.heap.size 135 [.int .u8 0,.slice none 0 0]):=⟨heap_alloc_new w _⟩;have HB:=am hbW;have HE:=am (H.out.below hbW);have HWS:qac ((w.alloc (.cells #[.int .u8 0,.slice none 0 0] 135)).heap.size=w.heap.size+1):=⟨by simp[World.alloc_eq]⟩;clear hbW;generalize w.alloc (.cells #[.int .u8 0,.slice none 0 0] 135)=W at *;obtain⟨B,hB⟩:∃B,w.heap.size=B:=⟨_,rfl⟩;have HBB:=am hB;rw[hB] at BX ⊢;clear hB;obtain⟨vin,he,hr⟩:=HE.out.ex;rw[HF.out] at he;obtain⟨A,c,rfl,-,-,-⟩:=hr.slice;rw[qbb,HLE.out] at he hr;obtain⟨l,hle⟩:∃l,e.inb.reverse=l:=⟨_,rfl⟩;have hll:=HLE.out;rw[hle] at hr hll;have HLL:=am hle;obtain⟨n,hn⟩:∃n,e.len=n:=⟨_,rfl⟩;obtain⟨o,hoo⟩:∃o,e.ones=o:=⟨_,rfl⟩;rw[hn] at he hr hll hl;rw[hoo] at he ho;have HN:=am hn;have HOO:=am hoo;clear hn hoo hle;obtain⟨A1,c1,w1,hrun,hr1,he1,hx1,ho1⟩:=qn9 HBB.out HB.out he hr HP.out BX.out (by omega) on;rw[hll] at hrun hr1;have HRUN:=am hrun;have HR1:=am hr1;have HE1:=am he1;have HX1:=am hx1;have HO1:=am ho1;have HEB:=am he;have HLEN:=am hll;clear hrun hr1 he1 hx1 ho1 he hr hll
 go_wp2_with fail
 refine(qd7 HEB.out).mono ?_;rintro x w2 ⟨rfl,rfl⟩;obtain⟨c1',c2',c3',c4',f1',f2',f3',f4'⟩:=HEB.out.cs;obtain⟨q1,q2,q3,q4,g1,g2,g3,g4⟩:=HE1.out.cs;have hgB:¬B=g:=fun e=>by subst e;exact absurd (HX1.out.typed.ne (Blk.typed HE1.out)) (by decide)
 have HGB:=am hgB;clear hgB;have hE2:EB (w1.setCell ⟨g,1,none⟩ (.slice A1 (n+1) c1)) g c0 rest (.slice A1 (n+1) c1) o true e.n:=HE1.out.s1 _;have hO2:Only (·=g) w1 (w1.setCell ⟨g,1,none⟩ (.slice A1 (n+1) c1)):=(Only.refl (·=g) w1).set rfl _;have HE2:=am hE2;have HO2:=am hO2;clear hE2 hO2;cases on
 ·skip;by_cases h6:o=6
  ·have e6:=b_t o 6 (by omega);have e6':(o==6)=true:=beq_iff_eq.2 h6;obtain⟨r,hr⟩:∃r,(if (l++[false]).length≤8 then none else some (Sig.judge ((l++[false]).take ((l++[false]).length-8))))=r:=⟨_,rfl⟩;have HBIT:qac (e.bit false=(⟨[],0,0,true,e.n⟩,r)):=⟨by
  have hlen:(l++[false]).length=e.len+1:=by rw[List.length_append,HLEN.out,HN.out];rfl
  have hN:=HN.out;unfold Sig.Ear.bit;rw[HF.out,HOO.out];simp only[Bool.false_eq_true,if_true,if_false,h6];rw[←hr,hlen];by_cases h8:e.len+1≤8
  ·rw[if_pos h8,if_pos h8]
  ·rw[if_neg h8,if_neg h8];have e1:(l++[false]).take (e.len+1-8)=(e.inb.drop 7).reverse:=by
    rw[List.take_append_of_le_length (by rw[HLEN.out];omega),←HLL.out,List.reverse_drop,H.out.len]
    congr 1
   rw[e1]⟩
   have HR:=am hr;clear hr h6;have hO3:Only (·=g) w1 ((w1.setCell ⟨g,1,none⟩ (.slice A1 (n+1) c1)).setCell ⟨g,2,none⟩ (.int .i64 0)):=HO2.out.set rfl _;have hE3:=HE2.out.s2 0 (x:=0) rfl;have hR3:=qiq HR1.out HE1.out (by decide) hO3;have HO3:=am hO3;have HCAL:=am (qlx hE3 hR3 (by rw[List.length_append,HLEN.out];simp only[List.length_singleton];omega));rw[HR.out] at HCAL;clear hO3 hE3 hR3
   go_wp2_with (first|fail|((with_reducible refine qao (b:=.append) (xs:=#[.tmp 21,.tmp 23]) rfl ?_);refine qap rfl (.tmp 21) (.tmp 23) 94 rfl (.slice A n c) (.slice (some ⟨W.heap.size,0,none⟩) 1 1) rfl rfl (.slice A1 (n+1) c1) w1 HRUN.out ?_))
   refine HCAL.out.mono ?_;rintro x w3 ⟨k,vv,rfl,hh,he3,ho3⟩;have hO4:Only (·=g) w1 w3:=HO3.out.trans ho3;have HO4:=am hO4;have HH:=am hh;have HE4:=am he3;clear hO4 hh he3 ho3;have BXF:=HX1.out.only HO4.out HGB.out;have b0:=BXF.c 0 rfl;have b1:=BXF.c 1 rfl;have bf:=BXF.f;have HBXF:=am BXF;clear BXF;have hvv:=HH.out.sl;obtain⟨Av,nv,cv,rfl⟩:=hvv;obtain⟨bb,hbb⟩:∃b,r.isSome=b:=⟨_,rfl⟩;rw[hbb];have HBO:=am hbb;clear hbb;go_wp2;refine bodyPost_ret (v:=qbo k (.slice Av nv cv) bb) (by simp[results,Tryz.results49,go_sem,b0,b1,bf]) rfl ?_;rw[HBIT.out,←HBO.out];exact qfh (k:=k) HBB.out (HO1.out.trans (HO4.out.mono (fun k e=>Or.inl e))) HE4.out (Rw.nil _ _ _) rfl HBXF.out HH.out
  have e6:=b_f o 6 (by omega);have e6':(o==6)=false:=beq_eq_false_iff_ne.2 h6;by_cases h9:2687<n+1
  ·have HBIT:qac (e.bit false=(⟨[],0,0,false,0⟩,none)):=⟨by unfold Sig.Ear.bit;rw[HF.out,HOO.out,HN.out];simp only[Bool.false_eq_true,if_true,if_false,if_neg h6,if_pos h9]⟩;have d9:decide ((2687:Int)<(n:Int)+1)=true:=decide_eq_true (by omega);have d9':decide (2687<n+1)=true:=decide_eq_true h9;have hO3:Only (·=g) w1 ((w1.setCell ⟨g,1,none⟩ (.slice A1 (n+1) c1)).setCell ⟨g,2,none⟩ (.int .i64 0)):=HO2.out.set rfl _;have hE3:=HE2.out.s2 0 (x:=0) rfl;have HO3:=am hO3;have HE3:=am hE3;clear hO3 hE3 h6 h9
   go_wp2_with (first|fail|((with_reducible refine qao (b:=.append) (xs:=#[.tmp 21,.tmp 23]) rfl ?_);refine qap rfl (.tmp 21) (.tmp 23) 94 rfl (.slice A n c) (.slice (some ⟨W.heap.size,0,none⟩) 1 1) rfl rfl (.slice A1 (n+1) c1) w1 HRUN.out ?_))
   refine(qhr HE3.out).mono ?_;rintro x w3 ⟨rfl,he3,ho3⟩;have HO4:qac (Only (·=g) w1 w3):=⟨HO3.out.trans ho3⟩;have HE4:=am he3;clear he3 ho3;have BXF:=HX1.out.only HO4.out HGB.out;have b0:=BXF.c 0 rfl;have b1:=BXF.c 1 rfl;have bf:=BXF.f;have HBXF:=am BXF;clear BXF;go_wp2;refine bodyPost_ret (v:=qbo 0 (.slice none 0 0) false) (by simp[results,Tryz.results49,go_sem,b0,b1,bf]) rfl ?_;rw[HBIT.out];exact qfh (k:=0) HBB.out (HO1.out.trans (HO4.out.mono (fun k e=>Or.inl e))) (HE4.out) (Rw.nil _ _ _) rfl HBXF.out (⟨rfl,rfl⟩)
  have HBIT:qac (e.bit false=(⟨false::e.inb,n+1,0,true,e.n⟩,none)):=⟨by unfold Sig.Ear.bit;rw[HF.out,HOO.out,HN.out];simp only[Bool.false_eq_true,if_true,if_false,if_neg h6,if_neg h9]⟩;have d9:decide ((2687:Int)<(n:Int)+1)=false:=decide_eq_false (by omega);have d9':decide (2687<n+1)=false:=decide_eq_false h9;have hO3:Only (·=g) w1 ((w1.setCell ⟨g,1,none⟩ (.slice A1 (n+1) c1)).setCell ⟨g,2,none⟩ (.int .i64 0)):=HO2.out.set rfl _;have HE4:=am (HE2.out.s2 0 (x:=0) rfl);have HO4:=am hO3;clear hO3 h6 h9;have BXF:=HX1.out.only HO4.out HGB.out;have b0:=BXF.c 0 rfl;have b1:=BXF.c 1 rfl;have bf:=BXF.f;have HBXF:=am BXF;clear BXF
  go_wp2_with (first|((with_reducible refine qao (b:=.append) (xs:=#[.tmp 21,.tmp 23]) rfl ?_);refine qap rfl (.tmp 21) (.tmp 23) 94 rfl (.slice A n c) (.slice (some ⟨W.heap.size,0,none⟩) 1 1) rfl rfl (.slice A1 (n+1) c1) w1 HRUN.out ?_))
  refine bodyPost_ret (v:=qbo 0 (.slice none 0 0) false) (by simp[results,Tryz.results49,go_sem,b0,b1,bf]) rfl ?_;rw[HBIT.out];exact qfh (k:=0) HBB.out (HO1.out.trans (HO4.out.mono (fun k e=>Or.inl e))) (HE4.out) (by rw[List.reverse_cons,HLL.out];exact(qiq HR1.out HE1.out (by decide) HO4.out).mono (fun k hk _ _ _=>hk.imp id (fun h=>⟨h.1,Nat.lt_of_lt_of_le h.2 (HO4.out).size⟩))) (by rw[List.length_cons,←H.out.len,HN.out]) HBXF.out (⟨rfl,rfl⟩)
 ·skip;by_cases h7:7≤o+1
  ·have HBIT:qac (e.bit true=(⟨[],0,o+1,false,0⟩,none)):=⟨by unfold Sig.Ear.bit;rw[HF.out,HOO.out];simp[h7]⟩;have d7:decide ((7:Int)≤(o:Int)+1)=true:=decide_eq_true (by omega);have hO3:Only (·=g) w1 ((w1.setCell ⟨g,1,none⟩ (.slice A1 (n+1) c1)).setCell ⟨g,2,none⟩ (.int .i64 ((o:Int)+1))):=HO2.out.set rfl _;have HE3:=am (HE2.out.s2 (o+1) (x:=(o:Int)+1) (by omega));have HO3:=am hO3;clear hO3 h7
   go_wp2_with (first|fail|((with_reducible refine qao (b:=.append) (xs:=#[.tmp 21,.tmp 23]) rfl ?_);refine qap rfl (.tmp 21) (.tmp 23) 94 rfl (.slice A n c) (.slice (some ⟨W.heap.size,0,none⟩) 1 1) rfl rfl (.slice A1 (n+1) c1) w1 HRUN.out ?_))
   refine(qhr HE3.out).mono ?_;rintro x w3 ⟨rfl,he3,ho3⟩;have HO4:qac (Only (·=g) w1 w3):=⟨HO3.out.trans ho3⟩;have HE4:=am he3;clear he3 ho3;have BXF:=HX1.out.only HO4.out HGB.out;have b0:=BXF.c 0 rfl;have b1:=BXF.c 1 rfl;have bf:=BXF.f;have HBXF:=am BXF;clear BXF;go_wp2;refine bodyPost_ret (v:=qbo 0 (.slice none 0 0) false) (by simp[results,Tryz.results49,go_sem,b0,b1,bf]) rfl ?_;rw[HBIT.out];exact qfh (k:=0) HBB.out (HO1.out.trans (HO4.out.mono (fun k e=>Or.inl e))) (HE4.out) (Rw.nil _ _ _) rfl HBXF.out (⟨rfl,rfl⟩)
  have HBIT:qac (e.bit true=(⟨true::e.inb,n+1,o+1,true,e.n⟩,none)):=⟨by unfold Sig.Ear.bit;rw[HF.out,HOO.out,HN.out];simp[h7]⟩;have d7:decide ((7:Int)≤(o:Int)+1)=false:=decide_eq_false (by omega);have hO3:Only (·=g) w1 ((w1.setCell ⟨g,1,none⟩ (.slice A1 (n+1) c1)).setCell ⟨g,2,none⟩ (.int .i64 ((o:Int)+1))):=HO2.out.set rfl _;have HE4:=am (HE2.out.s2 (o+1) (x:=(o:Int)+1) (by omega));have HO4:=am hO3;clear hO3 h7;have BXF:=HX1.out.only HO4.out HGB.out;have b0:=BXF.c 0 rfl;have b1:=BXF.c 1 rfl;have bf:=BXF.f;have HBXF:=am BXF;clear BXF
  go_wp2_with (first|((with_reducible refine qao (b:=.append) (xs:=#[.tmp 21,.tmp 23]) rfl ?_);refine qap rfl (.tmp 21) (.tmp 23) 94 rfl (.slice A n c) (.slice (some ⟨W.heap.size,0,none⟩) 1 1) rfl rfl (.slice A1 (n+1) c1) w1 HRUN.out ?_))
  refine bodyPost_ret (v:=qbo 0 (.slice none 0 0) false) (by simp[results,Tryz.results49,go_sem,b0,b1,bf]) rfl ?_;rw[HBIT.out];exact qfh (k:=0) HBB.out (HO1.out.trans (HO4.out.mono (fun k e=>Or.inl e))) (HE4.out) (by rw[List.reverse_cons,HLL.out];exact(qiq HR1.out HE1.out (by decide) HO4.out).mono (fun k hk _ _ _=>hk.imp id (fun h=>⟨h.1,Nat.lt_of_lt_of_le h.2 (HO4.out).size⟩))) (by rw[List.length_cons,←H.out.len,HN.out]) HBXF.out (⟨rfl,rfl⟩)
def SR (w:World) (P:Nat→Prop) (e sz:Nat) (Q:List Value→Prop) (v:Value) (n:Nat):Prop:=∃inner,w.ownsRow 0 e sz v n inner∧(∀k,qau v=some k→P k)∧(∀i,i<n→Q ((inner.drop (i*sz)).take sz))∧∀u∈inner,u.oneCell'=true
section
variable {w w':World} {P P' Q0:Nat→Prop} {e sz n:Nat} {Q Q':List Value→Prop} {v:Value}
theorem SR.nil (w:World) (P:Nat→Prop) (e sz:Nat) (Q:List Value→Prop):SR w P e sz Q (.slice none 0 0) 0:=⟨[],⟨by simp,Or.inl ⟨rfl,rfl⟩⟩,fun k hk=>by simp[qau] at hk,fun i hi=>absurd hi (Nat.not_lt_zero _),fun u hu=>by simp at hu⟩
theorem SR.blk (h:SR w P e sz Q v n) (k:Nat) (hk:qau v=some k):P k∧Typed w k e∧k<w.heap.size:=by
 obtain⟨inner,⟨_,h1⟩,h2,_⟩:=h;rcases h1 with ⟨rfl,_⟩|⟨g,cap,cur,rfl,_,hg,_⟩
 ·simp[qau] at hk
 ·simp only[qau,Option.some.injEq] at hk;subst hk;exact⟨h2 g rfl,⟨cur,_,hg⟩,(Array.getElem?_eq_some_iff.1 hg).1⟩
theorem SR.slice (h:SR w P e sz Q v n):∃A c,v=.slice A n c∧n≤c:=by
 obtain⟨inner,⟨_,h1⟩,_⟩:=h;rcases h1 with ⟨rfl,rfl⟩|⟨g,cap,cur,rfl,_,_,h,_⟩
 ·exact⟨_,_,rfl,Nat.le_refl _⟩
 ·exact⟨_,_,rfl,h⟩
theorem SR.move (h:SR w P e sz Q v n) (hm:∀k,qau v=some k→w'.heap[k]?=w.heap[k]?) (hQ:∀cs,Q cs→Q' cs) (hP:∀k,qau v=some k→P k→P' k):SR w' P' e sz Q' v n:=by
 obtain⟨inner,⟨hl,h1⟩,h2,h3,h4⟩:=h;refine⟨inner,⟨hl,?_⟩,fun k hk=>hP k hk (h2 k hk),fun i hi=>hQ _ (h3 i hi),h4⟩;rcases h1 with h1|⟨g,cap,cur,rfl,hg0,hg,h⟩
 ·exact Or.inl h1
 ·exact Or.inr ⟨g,cap,cur,rfl,hg0,(hm g rfl).trans hg,h⟩
theorem SR.only (h:SR w P e sz Q v n) (ho:Only Q0 w w') (hq:∀k,P k→Typed w k e→¬Q0 k) (hQ:∀cs,Q cs→Q' cs):SR w' P e sz Q' v n :=
 h.move (fun k hk=>ho.block k (h.blk k hk).2.2 (hq k (h.blk k hk).1 (h.blk k hk).2.1)) hQ (fun _ _ hp=>hp)
theorem SR.mono (h:SR w P e sz Q v n) (hP:∀k,P k→k<w.heap.size→P' k):SR w P' e sz Q v n:=h.move (fun _ _=>rfl) (fun _ h=>h) (fun k hk hp=>hP k hp (h.blk k hk).2.2)
theorem SR.cell (h:SR w P e sz Q v n) {A:Option Addr} {c:Nat} (hv:v=.slice A n c) (i:Nat) (hi:i<n):∃g,A=some ⟨g,0,none⟩∧∃cs,cs.length=sz∧Q cs∧∀j,j<sz→∃u,cs[j]?=some u∧w.cell? ⟨g,i*sz+j,none⟩=some u:=by
 obtain⟨inner,⟨hl,h1⟩,h2,h3,h4⟩:=h;rcases h1 with ⟨e1,rfl⟩|⟨g,cap,cur,e1,hg0,hg,hn,hm,hs,ht⟩
 ·omega
 ·rw[e1] at hv;simp only[Value.slice.injEq] at hv;obtain⟨rfl,-,-⟩:=hv;have hb:i*sz+sz≤n*sz:=by
   have:=Nat.mul_le_mul_right sz (show i+1≤n by omega);rw[Nat.add_mul,Nat.one_mul] at this;exact this
  refine⟨g,rfl,_,by rw[List.length_take,List.length_drop];omega,h3 i hi,fun j hj=>?_⟩;have hlt:i*sz+j<inner.length:=by omega
  refine⟨inner[i*sz+j],?_,?_⟩
  ·rw[List.getElem?_take,if_pos hj,List.getElem?_drop,List.getElem?_eq_getElem hlt]
  ·have h5:cur.toList[i*sz+j]?=some inner[i*sz+j]:=by
    have h6:(cur.toList.take (n*sz))[i*sz+j]?=inner[i*sz+j]?:=by rw[ht]
    rw[List.getElem?_take,if_pos (by omega),List.getElem?_eq_getElem hlt] at h6;exact h6
   simp only[World.cell?,hg]
   simpa using h5
theorem SR.append {t ty:TypeId} {i:TypeInfo} {z:Value} {bytes:Nat} (ht:Tryz.prog.underlying t=some (.slice e)) (hi:Tryz.prog.info? e=some i) (hz:i.zero=some z) (hsize:i.size=sz) (hby:i.bytes=bytes) (hzs:z.cells.size=sz) (hsz:0<sz) (hbp:0<bytes)
  (h:SR w P e sz Q v n) (hw':Below w.heap.size w w') {a:Addr} {cs:List Value} (hcl:cs.length=sz) (hcs:∀j u,cs[j]?=some u→w'.cell? (a.add j)=some u) (h1:∀u∈cs,u.oneCell'=true) (hn:n≤100000000) (hbb:bytes≤1000) (hq:Q cs) (hP:∀k,w.heap.size≤k→P k) :
  ∃v1 w1,(Builtin.append_ #[t,t] ty #[v,.slice (some a) 1 1]).run Tryz.prog w'=.ok v1 w1∧SR w1 P e sz Q v1 (n+1)∧Only (fun k=>qau v=some k) w' w1∧(∀k,qau v1=some k→qau v=some k∨w.heap.size≤k):=by
 have hm:=h.move (w':=w') (Q':=Q) (P':=P) (fun k hk=>hw'.block k (h.blk k hk).2.2) (fun _ h=>h) (fun _ _ h=>h);obtain⟨inner,ho,h2,h3,h4⟩:=hm;have hb:(n+1)*bytes≤140737488355328:=by
  have:=Nat.mul_le_mul (show n+1≤100000001 by omega) hbb;omega
 obtain⟨v1,w1,hrun,hown,hg,-,hat⟩:=run_append_own_at (P:=Tryz.prog) w' 0 t ty e i z sz bytes ht hi hz hsize hby hzs hsz v n inner ho a 1 1 cs (by omega) hcs h1 (by simp only[maxLen];omega) hb (Nat.zero_le _);have hob:∀u:Value,u.ownBlock=qau u:=fun u=>by
  cases u with
  |slice A n c=>cases A <;> rfl
  |_=>rfl
 have hsz':=hw'.size;refine⟨v1,w1,hrun,⟨inner++cs,hown,fun k hk=>?_,fun j hj=>?_,fun u hu=>?_⟩,⟨hg.os,hg.tape,hg.output,hg.size,fun k hk hne=>hg.block k hk (fun e=>hne (by rw[←hob];exact e.symm))⟩,fun k hk=>?_⟩
 ·rcases hat with hat|hat
  ·rw[hob,hob] at hat;exact h2 k (hat▸hk)
  ·rw[hob] at hat;rw[hat] at hk;simp only[Option.some.injEq] at hk;exact hP k (by omega)
 ·have hl:=ho.1;by_cases hjn:j<n
  ·have hb:j*sz+sz≤n*sz:=by
    have:=Nat.mul_le_mul_right sz (show j+1≤n by omega);rw[Nat.add_mul,Nat.one_mul] at this;exact this
   rw[List.drop_append_of_le_length (by omega),List.take_append_of_le_length (by rw[List.length_drop];omega)];exact h3 j hjn
  ·obtain rfl:j=n:=by omega
   rw[List.drop_append,List.drop_of_length_le (by omega),List.nil_append,show j*sz-inner.length=0 by omega,List.drop_zero,List.take_of_length_le (by omega)];exact hq
 ·rcases List.mem_append.1 hu with hu|hu
  ·exact h4 u hu
  ·exact h1 u hu
 ·rcases hat with hat|hat
  ·rw[hob,hob] at hat;exact Or.inl (hat▸hk)
  ·rw[hob] at hat;rw[hat] at hk;simp only[Option.some.injEq] at hk;exact Or.inr (by omega)
end
structure PoV where
 vin:Value
 vout:Value
 vnp:Value
 ends:Nat
 gone:Nat
 came:Nat
 vs:Value
 vg:Value
 ns:Nat
 ng:Nat
def qgi (A:Adr) (t:List Nat) (q:PoV):List Value:=[q.vout,q.vnp,.int .i64 (q.ends:Int),.int .i64 (q.gone:Int),.int .i64 (q.came:Int),q.vs,q.vg]++qcf A.cyc t
def SentOk (w:World) (cs:List Value):Prop:=∃A n c l,∃k:Nat,cs=[.slice A n c,.int .i64 (k:Int)]∧Oct w (.slice A n c) l∧k≤2000000000
def CameOk (w:World) (cs:List Value):Prop:=∃A n c l,∃k j:Nat,cs=[.int .u8 (k:Int),.slice A n c,.int .i64 (j:Int)]∧Oct w (.slice A n c) l∧j≤2000000000
structure PoRows (w:World) (O:Nat→Prop) (p:Sig.Post) (q:PoV):Prop where
 ear:Rw w (fun k=>O k∧qau q.vout≠some k) 4 q.vin (bools p.ear.inb.reverse)
 elen:p.ear.len=p.ear.inb.length
 out:Rw w O 4 q.vout (bools p.out)
 np:∃A n c l,q.vnp=.slice A n c∧Oct w (.slice A n c) l
 sent:SR w O 107 2 (SentOk w) q.vs q.ns
 got:SR w O 139 3 (CameOk w) q.vg q.ng
structure PoIs (w:World) (g:Nat) (A:Adr) (O:Nat→Prop) (p:Sig.Post) (q:PoV) (vt:Value):Prop where
 blk:EB w g (ptr A.s) (qgi A p.x.t q) q.vin p.ear.ones p.ear.found p.ear.n
 lk:Lk w A O p.x vt
 way:WayAt w A O p.x.w
 rows:PoRows w O p q
def WrP (g:Nat) (A:Adr) (O:Nat→Prop) (w:World) (k:Nat):Prop:=k=g∨WrF A O w k∨(O k∧(Typed w k 4∨Typed w k 107∨Typed w k 139))
structure PAcc (g:Nat) (A:Adr) (O:Nat→Prop) (w:World) (p:Sig.Post) (q:PoV) (vt:Value) (w':World):Prop where
 is:PoIs w' g A (qbe O w w') p q vt
 only:Only (WrP g A O w) w w'
section
variable {g:Nat} {A:Adr} {O O' Q:Nat→Prop} {w w1 w2:World} {p p':Sig.Post} {q q':PoV} {vt vt':Value}
theorem SentOk.only (ho:Only Q w w1) (hq:qca Q w) (cs:List Value) (h:SentOk w cs):SentOk w1 cs:=by
 obtain⟨A,n,c,l,k,e,h,hk⟩:=h;exact⟨A,n,c,l,k,e,h.only ho hq,hk⟩
theorem CameOk.only (ho:Only Q w w1) (hq:qca Q w) (cs:List Value) (h:CameOk w cs):CameOk w1 cs:=by
 obtain⟨A,n,c,l,k,j,e,h,hk⟩:=h;exact⟨A,n,c,l,k,j,e,h.only ho hq,hk⟩
theorem PoRows.only (h:PoRows w O p q) (ho:Only Q w w1) (hq:qca Q w) (h4:∀k,O k→(Typed w k 4∨Typed w k 107∨Typed w k 139)→¬Q k):PoRows w1 O p q :=
 ⟨h.ear.only ho (fun k hk ht _=>h4 k hk.1 (Or.inl ht)),h.elen,h.out.only ho (fun k hk ht _=>h4 k hk (Or.inl ht)),by obtain⟨A,n,c,l,e,h⟩:=h.np;exact⟨A,n,c,l,e,h.only ho hq⟩,h.sent.only ho (fun k hk ht=>h4 k hk (Or.inr (Or.inl ht))) (SentOk.only ho hq),h.got.only ho (fun k hk ht=>h4 k hk (Or.inr (Or.inr ht))) (CameOk.only ho hq)⟩
theorem PoRows.mono (h:PoRows w O p q) (hm:∀k,O k→k<w.heap.size→O' k):PoRows w O' p q :=
 ⟨h.ear.mono (fun k hk _ hlt _=>⟨hm k hk.1 hlt,hk.2⟩),h.elen,h.out.mono (fun k hk _ hlt _=>hm k hk hlt),h.np,h.sent.mono hm,h.got.mono hm⟩
theorem PoRows.post (h:PoRows w O p q) (he:p'.ear=p.ear) (ho:p'.out=p.out):PoRows w O p' q:=⟨by rw[he];exact h.ear,by rw[he];exact h.elen,by rw[ho];exact h.out,h.np,h.sent,h.got⟩
theorem PoIs.typed (h:PoIs w g A O p q vt):Typed w g 111:=Blk.typed h.blk
theorem PoIs.wrf_not (h:PoIs w g A O p q vt) {k t:Nat} (ht:Typed w k t) (hn:t≠54∧t≠152∧t≠62∧t≠177∧t≠184∧t≠205∧t≠203∧t≠148∧t≠23):¬WrF A O w k:=by
 rintro(hk|hk)
 ·exact qby h.lk ht (by omega) hk
 ·exact qf1 h.way ht (by omega) hk
theorem PAcc.refl (h:PoIs w g A O p q vt):PAcc g A O w p q vt w :=
 ⟨⟨h.blk,(FAt.refl h.lk h.way).lk,(FAt.refl h.lk h.way).way,h.rows.mono (fun k hk _=>Or.inl hk)⟩,Only.refl _ _⟩
theorem qof (h1:Only (WrP g A O w) w w1) (h2:Only (WrP g A (qbe O w w1) w1) w1 w2):Only (WrP g A O w) w w2:=by
 refine⟨h2.os.trans h1.os,h2.tape.trans h1.tape,h2.output.trans h1.output,Nat.le_trans h1.size h2.size,fun k hk hn=>?_⟩;refine(h2.block k (Nat.lt_of_lt_of_le hk h1.size) (fun h=>hn ?_)).trans (h1.block k hk hn);have back:∀t,Typed w1 k t→Typed w k t:=fun t ht=>by
  obtain⟨c,fr,e⟩:=ht;exact⟨c,fr,(h1.block k hk hn).symm.trans e⟩
 rcases h with h|((h|⟨h|h,ht⟩)|(h|h|⟨h|h,ht⟩))|⟨h|h,ht⟩
 ·exact Or.inl h
 ·exact Or.inr (Or.inl (Or.inl (Or.inl h)))
 ·exact Or.inr (Or.inl (Or.inl (Or.inr ⟨h,back _ ht⟩)))
 ·omega
 ·exact Or.inr (Or.inl (Or.inr (Or.inl h)))
 ·exact Or.inr (Or.inl (Or.inr (Or.inr (Or.inl h))))
 ·exact Or.inr (Or.inl (Or.inr (Or.inr (Or.inr ⟨h,back _ ht⟩))))
 ·omega
 ·exact Or.inr (Or.inr ⟨h,ht.imp (back _) (fun h=>h.imp (back _) (back _))⟩)
 ·omega
theorem PoIs.grow (h:PoIs w2 g A (qbe (qbe O w w1) w1 w2) p q vt) (h1:w.heap.size≤w1.heap.size) (h2:w1.heap.size≤w2.heap.size):PoIs w2 g A (qbe O w w2) p q vt:=by
 have hg:=qbp (O:=O) h1 h2;refine⟨h.blk,h.lk.mono hg (fun k hk'=>?_),h.way.mono (fun k hk _=>hg k hk),h.rows.mono (fun k hk _=>hg k hk)⟩;rcases hk' with hk'|hk'
 ·exact h.lk.lt k (Or.inl (Or.inl hk'))
 ·by_cases hlt:k<w1.heap.size
  ·exact h.lk.lt k (Or.inl (Or.inr ⟨hk'.1,hlt⟩))
  ·exact h.lk.lt k (Or.inr ⟨by omega,hk'.2⟩)
theorem PAcc.trans (h:PAcc g A O w p q vt w1) (h':PAcc g A (qbe O w w1) w1 p' q' vt' w2):PAcc g A O w p' q' vt' w2 :=
 ⟨h'.is.grow h.only.size h'.only.size,qof h.only h'.only⟩
theorem PAcc.link {x':Sig.Link} (h:PoIs w g A O p q vt) (h':FAt A O w x' w1 vt') (ht:x'.t=p.x.t):PAcc g A O w { p with x:=x' } q vt' w1:=by
 have hno:∀k t,Typed w k t→(t≠54∧t≠152∧t≠62∧t≠177∧t≠184∧t≠205∧t≠203∧t≠148∧t≠23)→¬WrF A O w k:=fun k t ht hn=>h.wrf_not ht hn;refine⟨⟨?_,h'.lk,h'.way,?_⟩,h'.only.mono (fun k hk=>Or.inr (Or.inl hk))⟩
 ·show EB w1 g (ptr A.s) (qgi A x'.t q) _ _ _ _;rw[ht];exact h.blk.only h'.only (hno g 111 h.typed (by decide))
 ·refine PoRows.post (p:=p) (PoRows.mono (h.rows.only h'.only (fun k hk ht=>hno k 5 ht (by decide) hk) (fun k _ ht=>?_)) (fun k hk _=>Or.inl hk)) rfl rfl;rcases ht with ht|ht|ht
  ·exact hno k 4 ht (by decide)
  ·exact hno k 107 ht (by decide)
  ·exact hno k 139 ht (by decide)
theorem PAcc.below (h:PoIs w g A O p q vt) (hb:Below w.heap.size w w1):PAcc g A O w p q vt w1 :=
 PAcc.link (p:=p) h ((FAt.refl h.lk h.way).below hb) rfl
end
section
open Sig
theorem qit (x:Link):x.prove.t=x.t:=by unfold Link.prove;simp only;split <;> rfl
theorem qdc (x:Link) (k:Nat):(x.fail k).t=x.t:=by unfold Link.fail;split <;> rfl
theorem qmz (x:Link) (s:Nat):(x.aHeard s).1.t=x.t:=by
 unfold Link.aHeard;split
 ·rfl
 ·simp only;have hy:∀y:Link,(if s=2 then { x with a:={ x.a with their:=true } } else x)=y→y.t=x.t:=fun y h=>by subst h;split <;> rfl
  generalize (if s=2 then { x with a:={ x.a with their:=true } } else x)=y at hy ⊢;have hy:=hy y rfl;split
  ·exact hy
  split
  ·exact hy
  split
  ·rw[qit];exact hy
  split
  ·exact hy
  split
  ·rw[qit];exact hy
  ·exact hy
theorem qqn (x:Link) (b:Bool):(x.aUnit b).1.t=x.t:=by
 unfold Link.aUnit;split
 ·rfl
 ·simp only;split
  ·rfl
  split
  ·exact qit _
  ·rfl
theorem qqp (x:Link) (i:Nat):(x.aOut i).1.t=x.t:=by
 unfold Link.aOut;split
 ·rfl
 split <;> rfl
theorem qsp (x:Link) (i:Nat):(x.jOut i).1.t=x.t:=by
 unfold Link.jOut;split
 ·rfl
 split <;> rfl
theorem qw1 (x:Link) (i:Nat):(x.out i).t=x.t:=by
 unfold Link.out;split
 ·rfl
 split
 ·simp only;split
  ·exact(qdc _ _).trans (qqp x i)
  split
  ·exact qqp x i
  ·exact qqp x i
 split
 ·exact qdc _ _
 split
 ·exact qdc _ _
 ·simp only;split
  ·exact(qdc _ _).trans (qsp x i)
  ·exact qsp x i
theorem qu8 (x:Link):x.tick.t=x.t:=by
 unfold Link.tick;have:∀(l:List Nat) (y:Link),(l.foldl Link.out y).t=y.t:=by
  intro l
  induction l with
  |nil=>intro y;rfl
  |cons i l ih=>intro y;exact(ih _).trans (qw1 y i)
 exact this _ _
theorem qlz (x:Link) (b:Bool):(x.count b).t=x.t:=by
 unfold Link.count;split
 ·rfl
 split
 ·simp only;split
  ·exact(qdc _ _).trans (qqn x b)
  ·exact qqn x b
 ·simp only;split
  ·exact qdc _ _
  ·rfl
theorem qoh (x:Link) (b:Bool):(x.wait b).t=x.t:=by
 unfold Link.wait;split
 ·rfl
 split <;> rfl
theorem qir (x:Link):x.resume.t=x.t:=by
 unfold Link.resume;split
 ·rfl
 ·exact qoh _ _
theorem qoz (x:Link):x.serve.t=x.t:=by unfold Link.serve;simp only;split <;> rfl
theorem qml (x:Link) (b:Bool):(x.remote b).t=x.t:=by
 unfold Link.remote;have h:(if x.s=2∨x.s=3 then x.serve else x).t=x.t:=by split;exact qoz x;rfl
 simp only;generalize (if x.s=2∨x.s=3 then x.serve else x)=y at h ⊢;split
 ·exact h
 split
 ·split
  ·exact h
  ·exact h
 ·exact(qir _).trans h
theorem qq6 (x:Link) (s:Nat):(x.status s).t=x.t:=by
 unfold Link.status;split
 ·simp only;split
  ·exact(qdc _ _).trans (qmz x s)
  ·exact qmz x s
 split
 ·exact qdc _ _
 split
 ·exact qdc _ _
 split
 ·exact qml _ _
 split
 ·have h:(x.jHeard (Nat.blt 0 x.w.hold.sent.length)).1.t=x.t:=by
   unfold Link.jHeard;simp only;split <;> split <;> rfl
  simp only;split
  ·exact h
  ·exact h
 ·rfl
theorem qnj (x:Link) (u:Sig.Unit):(x.ordinary u).t=x.t:=by
 rw[qc6];have h1:(o1 x).t=x.t:=by unfold o1;split;exact qoz x;rfl
 have h2:(o2 (o1 x)).t=x.t:=by
  unfold o2;split
  ·exact(qml _ _).trans h1
  ·exact h1
 have hA:∀(y:Link) r,y.t=x.t→(oA y u r).t=x.t:=by
  intro y r hy;unfold oA;split
  ·exact(qdc _ _).trans hy
  ·rename_i k;have h3:(o3 y k).t=x.t:=by
    unfold o3;split
    ·exact(qoh _ _).trans hy
    ·exact hy
   have h4:(o4 (o3 y k) k).t=x.t:=by
    unfold o4;split
    ·show ((o3 y k).jAnswer.1).t=x.t;unfold Link.jAnswer;split
     ·exact h3
     ·exact h3
    ·exact h3
   unfold o5;split
   ·exact h4
   ·unfold o6;split
    ·exact(qdc _ _).trans h4
    ·exact h4
    ·exact h4
 exact hA _ _ h2
theorem qvx (x:Link) (u:Sig.Unit):(x.hear u).t=x.t:=by
 unfold Link.hear;simp only;have h:=qlz x false;split
 ·exact h
 split
 ·exact(qq6 _ _).trans h
 split
 ·exact h
 ·exact(qnj _ _).trans h
theorem qve (x:Link):x.next.1.t=x.t:=by
 unfold Link.next;split
 ·rfl
 split
 ·rfl
 split
 ·split
  ·rfl
  ·exact qoh _ _
 split <;> rfl
theorem qto (x:Link) (b:Bool):(x.local_ b).t=x.t:=by
 unfold Link.local_;split
 ·rfl
 ·simp only;split
  ·rfl
  split
  ·exact qir _
  split
  ·rfl
  split <;> rfl
theorem qte (x:Link) (k:Nat) (p:List Nat):(x.order k p).1.t=x.t:=by
 unfold Link.order;split
 ·split <;> rfl
 split
 ·split
  ·rfl
  ·exact qdc _ _
 split
 ·show (x.aHurry (k==3)).t=x.t;unfold Link.aHurry;simp only;split
  ·exact qit _
  ·rfl
 split
 ·split <;> rfl
 split
 ·exact qto _ _
 split
 ·rfl
 split
 ·simp only;split
  ·exact qir _
  ·rfl
 split
 ·split
  ·split
   ·show x.jBegin.t=x.t;unfold Link.jBegin;split <;> rfl
   ·rfl
  ·rfl
 ·rfl
end
section
open Sig
theorem HOk.last {h:Hold} (hf:HOk h):h.last<128:=by unfold Hold.last;omega
theorem qmy {b:Basic} (h:BOk b) (n:Nat) (hn:n<128):UOk (b.head n):=⟨h.last,hn,Or.inl rfl,fun h=>absurd h (by simp[Basic.head]),fun h=>absurd h (by simp[Basic.head]),fun x hx=>by simp[Basic.head] at hx⟩
theorem qmv {c:Cyclic} (h:COk c) (n:Nat) (hn:n<128):UOk (c.head n):=⟨h.last,hn,Or.inl rfl,fun h=>absurd h (by simp[Cyclic.head]),fun h=>absurd h (by simp[Cyclic.head]),fun x hx=>by simp[Cyclic.head] at hx⟩
theorem qqg {b:Basic} (h:BOk b) (n:Nat) (hn:n<128) {p:List Nat} (hp:3≤p.length∧p.length≤273∧∀x∈p,x<256):UOk (b.msg n p):=⟨h.last,hn,Or.inr (Or.inr rfl),fun h=>absurd h (by simp[Basic.msg]),fun _=>⟨hp.1,hp.2.1⟩,hp.2.2⟩
theorem qqc {c:Cyclic} (h:COk c) (n:Nat) (hn:n<128) {p:List Nat} (hp:3≤p.length∧p.length≤273∧∀x∈p,x<256):UOk (c.msg n p):=⟨h.last,hn,Or.inr (Or.inr rfl),fun h=>absurd h (by simp[Cyclic.msg]),fun _=>⟨hp.1,hp.2.1⟩,hp.2.2⟩
theorem qo0 {h h':Hold} {n:Nat} {p:List Nat} (hf:HOk h) (e:h.send=(h',some (n,p))):n<128∧(3≤p.length∧p.length≤273∧∀x∈p,x<256):=by
 unfold Hold.send at e;rcases hn:h.next with _|⟨q,r⟩
 ·rw[hn] at e;simp at e
 ·rw[hn] at e;simp only at e;split at e
  ·simp at e
  ·simp only[Prod.mk.injEq,Option.some.injEq] at e;obtain⟨rfl,rfl,rfl⟩:=e;exact⟨by unfold Hold.last;omega,hf.long _ (Or.inr (by rw[hn];simp))⟩
theorem qwh {h:Hold} {i n:Nat} {p:List Nat} (hf:HOk h) (e:h.at i=some (n,p)):n<128∧(3≤p.length∧p.length≤273∧∀x∈p,x<256):=by
 unfold Hold.at at e;split at e
 ·rename_i q hq;simp only[Option.some.injEq,Prod.mk.injEq] at e;obtain⟨rfl,rfl⟩:=e;exact⟨by omega,hf.long _ (Or.inl (List.mem_of_getElem? hq))⟩
 ·simp at e
theorem qqf {b:Basic} (h:BOk b):UOk b.new.2:=by
 unfold Basic.new;split
 ·rename_i h' n p e;obtain⟨a,c⟩:=qo0 h.h e;exact qqg h n a c
 ·exact qmy h _ h.h.last
theorem qr8 {b:Basic} (h:BOk b):UOk b.next.2:=by
 unfold Basic.next;split
 ·split
  ·rename_i e;obtain⟨a,c⟩:=qwh h.h e;exact qqg h _ a c
  ·exact qqf ⟨h.h,h.last,fun i hi=>by simp at hi⟩
 ·exact qqf h
theorem qqb {c:Cyclic} (h:COk c):UOk c.old.2:=by
 have key:∀d:Cyclic,COk d→UOk (match d.h.at d.at_ with|none=>(d,d.fill)|some (n,p)=>({ d with at_:=d.at_+1 },d.msg n p)).2:=by
  intro d hd;split
  ·exact qmv hd _ hd.h.last
  ·rename_i e;obtain⟨a,k⟩:=qwh hd.h e;exact qqc hd _ a k
 unfold Cyclic.old;refine key _ ?_;split
 ·exact⟨h.h,h.n1,h.n2,h.last,by simp⟩
 ·exact h
theorem qr6 {c:Cyclic} (h:COk c):UOk c.next.2:=by
 have key:∀d:Cyclic,COk d→UOk (if !d.force then match d.h.send with|(h,some (n,p))=>({ d with h:=h },d.msg n p)|(_,none)=>d.old else d.old).2:=by
  intro d hd;split
  ·split
   ·rename_i e;obtain⟨a,k⟩:=qo0 hd.h e;exact qqc hd _ a k
   ·exact qqb hd
  ·exact qqb hd
 unfold Cyclic.next;refine key _ ?_;split
 ·exact⟨h.h,h.n1,h.n2,h.last,h.at_⟩
 ·exact h
theorem qh6 {x:Sig.Way} (h:WOk x):UOk x.fill:=by
 cases x with
 |basic b=>exact qmy h _ (show BOk b from h).h.last
 |cyclic c=>exact qmv h _ (show COk c from h).h.last
theorem qqu {x:Sig.Way} (h:WOk x):UOk x.next.2:=by cases x with|basic b=>exact qr8 h|cyclic c=>exact qr6 h
theorem qe1 {x:Sig.Way} (h:WOk x) {s:Nat} (hs:s≤7):UOk (x.status s):=by
 have hf:=qh6 h;exact⟨hf.bsn,hf.fsn,Or.inr (Or.inl rfl),fun _=>hs,fun h=>absurd h (by simp[Way.status]),hf.oct⟩
theorem qq8 (x:Link):x.sends≤3:=by
 unfold Link.sends;split
 ·decide
 split
 ·decide
 split <;> decide
theorem qtg {x:Link} (h:WOk x.w):UOk x.next.2:=by
 unfold Link.next;split
 ·exact qe1 h (by have:=qq8 x;omega)
 split
 ·exact qh6 h
 split
 ·split
  ·exact qe1 h (by decide)
  ·exact qqu h
 split
 ·exact qe1 h (by decide)
 ·exact qh6 h
theorem qol (n:Nat) (b:Bool):ubit n b<256:=by
 have h:n%128<2^8:=by omega
 unfold ubit;split
 ·exact Nat.or_lt_two_pow (n:=8) h (by decide)
 ·omega
theorem qv3 {u:Sig.Unit} (ok:UOk u):3≤u.encode.1.length∧u.encode.1.length≤276∧∀b∈u.encode.1,b<256:=by
 have hl:=ok.body_len;have hs:=ok.status;have ho:=ok.oct;rw[ok.enc];refine⟨by simp,by simp;omega,fun b hb=>?_⟩;simp only[List.cons_append,List.nil_append,List.mem_cons] at hb;rcases hb with rfl|rfl|rfl|hb
 ·exact qol _ _
 ·exact qol _ _
 ·have:Nat.min u.body.length 63≤63:=Nat.min_le_right _ _;omega
 ·unfold Sig.Unit.body at hb;split at hb
  ·split at hb
   ·rename_i h _;have:=hs h;simp at hb;omega
   ·rename_i h _;have:=hs h;simp at hb;omega
  split at hb
  ·exact ho b hb
  ·simp at hb
end
end Go.Proofs.YtjbijdmcceloaaaGreat.Top
