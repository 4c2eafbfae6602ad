/- Part of the proof of topServes_holds. No condition. -/
import Derived.Test.YtjbijdmcceloaaaGreatProg
import Derived.Laws.RangeAny
import Derived.Lib.OthersKept
import Derived.Test.YtjbijdmcceloaaaGreatQS2
set_option linter.unusedVariables false
set_option linter.unusedSimpArgs false
set_option maxHeartbeats 80000000
set_option maxRecDepth 100000
namespace Go.Proofs.YtjbijdmcceloaaaGreat
open Go Go.RowKit Go.Proofs.YtjbijdmcceloaaaGreat Go.Proofs.YtjbijdmcceloaaaGreatW.PrintWords Go.Proofs.YtjbijdmcceloaaaGreatW.PrintLast Go.Proofs.YtjbijdmcceloaaaGreatW.PrintMore
theorem am {p:Prop} (h:p):qac p:=⟨h⟩
theorem sq {P:Program} {c1 c2:Code} {Q:Exit→Act→World→Prop} {a:Act} {w:World} (h:∀K:Act→World→Prop,qac (∀a w,c2.wp P Q a w→K a w)→c1.wp P (Exit.then K Q) a w):(c1.seq c2).wp P Q a w:=wp_seq_k (fun K k=>h K ⟨k⟩)
theorem b_f (n:Nat) (k:Int) (h:(n:Int)≠k):((n:Int)==k)=false:=beq_eq_false_iff_ne.2 h
theorem b_t (n:Nat) (k:Int) (h:(n:Int)=k):((n:Int)==k)=true:=beq_iff_eq.2 h
end Go.Proofs.YtjbijdmcceloaaaGreat
namespace Sig
def rNext (n:Nat):Nat:=(n+1)%128
def rPrev (n:Nat):Nat:=(n+127)%128
def rGap (a b:Nat):Nat:=(b+256-a)%128
def rWithin (n first last:Nat):Bool:=Nat.ble (rGap first n) (rGap first last)
structure Leak where
 n:Nat
 seen:Nat
deriving DecidableEq,Repr
def Leak.unit (l:Leak) (wrong:Bool):Leak×Bool :=
 let l:=if 0<l.n then (if 256≤l.seen+1 then ⟨l.n-1,0⟩ else ⟨l.n,l.seen+1⟩) else l
 let l:=if wrong then ⟨l.n+1,if l.n=0 then 0 else l.seen⟩ else l
 (l,decide (64≤l.n))
structure Proof where
 hurry:Bool
 n:Nat
 tries:Nat
deriving DecidableEq,Repr
def Proof.most (p:Proof):Nat:=if p.hurry then 1 else 4
def Proof.unit (p:Proof) (wrong:Bool):Proof×Bool×Bool :=
 let p:=if wrong then { p with n:=p.n+1 } else p
 if p.n<p.most then (p,false,false) else ({ p with n:=0,tries:=p.tries+1 },true,decide (5≤p.tries+1))
structure Outage where
 own:Bool
 their:Bool
 wait:Bool
deriving DecidableEq,Repr
def Outage.is (o:Outage):Bool:=o.own||o.their||o.wait
def Outage.remote (o:Outage) (out:Bool):Outage×Bool:=({ o with their:=out,wait:=o.wait||out },o.their != out)
def Outage.continue (o:Outage):Outage×Bool:=if o.own||o.their then (o,false) else ({ o with wait:=false },true)
structure Unit where
 bsn:Nat
 fsn:Nat
 bib:Bool
 fib:Bool
 kind:Nat
 status:Nat
 wide:Bool
 info:List Nat
deriving DecidableEq,Repr
def Unit.zero:Unit:=⟨0,0,false,false,0,0,false,[]⟩
def ubit (n:Nat) (on:Bool):Nat:=if on then n%128 ||| 128 else n%128
def Unit.right (u:Unit):Nat :=
 if 128≤u.bsn∨128≤u.fsn∨2<u.kind∨(u.kind=1∧7<u.status) then 1
 else if u.kind=2∧u.info.length<3 then 5 else if u.kind=2∧273<u.info.length then 6 else 0
def Unit.body (u:Unit):List Nat:=if u.kind=1 then (if u.wide then [u.status,0] else [u.status]) else if u.kind=2 then u.info else []
def Unit.encode (u:Unit):List Nat×Nat :=
 if u.right≠0 then ([],u.right) else ([ubit u.bsn u.bib,ubit u.fsn u.fib,Nat.min u.body.length 63]++u.body,0)
def decode (p:List Nat):Unit×Nat :=
 if p.length<3 then (Unit.zero,5) else if 276<p.length then (Unit.zero,6) else
  let a:=p.getD 0 0
  let b:=p.getD 1 0
  let r:=p.drop 3
  if p.getD 2 0 &&& 63≠Nat.min r.length 63 then (Unit.zero,4) else
   let u:Unit:=⟨a%128,b%128,Nat.ble 128 a,Nat.ble 128 b,0,0,false,[]⟩
   match r with
   |[]=>(u,0)
   |[s]=>({ u with kind:=1,status:=s &&& 7,wide:=false },0)
   |[s,_]=>({ u with kind:=1,status:=s &&& 7,wide:=true },0)
   |r=>({ u with kind:=2,info:=r },0)
structure Hold where
 most:Nat
 octets:Nat
 sent:List (List Nat)
 first:Nat
 next:List (List Nat)
deriving DecidableEq,Repr
def size (l:List (List Nat)):Nat:=(l.map List.length).sum
def Hold.last (h:Hold):Nat:=(h.first+h.sent.length+127)%128
def Hold.put (h:Hold) (p:List Nat):Hold×Nat :=
 if p.length<3 then (h,5) else if 273<p.length then (h,6)
 else if h.most≤h.sent.length+h.next.length∨h.octets<size h.sent+size h.next+p.length then (h,3)
 else ({ h with next:=h.next++[p] },0)
def Hold.send (h:Hold):Hold×Option (Nat×List Nat) :=
 match h.next with
 |[]=>(h,none)
 |p::r=>if 127≤h.sent.length then (h,none) else
   let h':={ h with sent:=h.sent++[p],next:=r }
   (h',some (h'.last,p))
def Hold.at (h:Hold) (i:Nat):Option (Nat×List Nat):=match h.sent[i]? with
 |some p=>some ((h.first+i)%128,p)
 |none=>none
def Hold.knows (h:Hold) (n:Nat):Bool:=Nat.blt n 128&&rWithin n (rPrev h.first) h.last
def Hold.free (h:Hold) (n:Nat):Hold×Nat:=({ h with sent:=h.sent.drop (rGap (rPrev h.first) n),first:=rNext n },rGap (rPrev h.first) n)
def Hold.clear (h:Hold):Hold:={ h with sent:=[],next:=[],first:=0 }
def see (o:Bool×Bool) (odd:Bool):(Bool×Bool)×Bool:=((o.2,odd),odd&&(o.1||o.2))
structure Basic where
 h:Hold
 fib:Bool
 bib:Bool
 last:Nat
 asked:Bool
 again:Option Nat
 bsn:Bool×Bool
 ind:Bool×Bool
deriving DecidableEq,Repr
def Basic.head (b:Basic) (n:Nat):Unit:=⟨b.last,n,b.bib,b.fib,0,0,false,[]⟩
def Basic.fill (b:Basic):Unit:=b.head b.h.last
def Basic.msg (b:Basic) (n:Nat) (p:List Nat):Unit:={ b.head n with kind:=2,info:=p }
def Basic.new (b:Basic):Basic×Unit:=match b.h.send with
 |(h,some (n,p))=>({ b with h:=h },b.msg n p)
 |(_,none)=>(b,b.fill)
def Basic.next (b:Basic):Basic×Unit:=match b.again with
 |some i=>match b.h.at i with
  |some (n,p)=>({ b with again:=if b.h.sent.length≤i+1 then none else some (i+1) },b.msg n p)
  |none=>{ b with again:=none }.new
 |none=>b.new
def Basic.answer (b:Basic) (u:Unit):Basic×Option Nat :=
 let knows:=b.h.knows u.bsn
 let s:=see b.bsn (!knows)
 let b:={ b with bsn:=s.1 }
 if s.2 then (b,none) else if !knows then (b,some 0) else
  let f:=b.h.free u.bsn
  let again:=b.again.map (· - f.2)
  let again:=match again with
   |some i=>if f.1.sent.length≤i then none else some i
   |none=>none
  let b:={ b with h:=f.1,again:=again }
  if u.bib != b.fib then ({ b with fib:=u.bib,again:=if 0<b.h.sent.length then some 0 else none },some f.2) else (b,some f.2)
def Basic.take (b:Basic) (u:Unit):Basic×Option (Option (List Nat)) :=
 if u.fib != b.bib then
  let s:=see b.ind (!b.asked)
  ({ b with ind:=s.1 },if s.2 then none else some none)
 else
  let b:={ b with ind:=(see b.ind false).1 }
  if u.kind=2∧u.fsn=rNext b.last then ({ b with last:=rNext b.last,asked:=false },some (some u.info))
  else if u.fsn=b.last then ({ b with asked:=false },some none)
  else ({ b with bib:=!b.bib,asked:=true },some none)
def Basic.reset (b:Basic):Basic:=⟨b.h.clear,true,true,127,false,none,(false,false),(false,false)⟩
structure Cyclic where
 h:Hold
 n1:Nat
 n2:Nat
 last:Nat
 at_:Nat
 force:Bool
 bsn:Bool×Bool
deriving DecidableEq,Repr
def Cyclic.head (c:Cyclic) (n:Nat):Unit:=⟨c.last,n,true,true,0,0,false,[]⟩
def Cyclic.fill (c:Cyclic):Unit:=c.head c.h.last
def Cyclic.msg (c:Cyclic) (n:Nat) (p:List Nat):Unit:={ c.head n with kind:=2,info:=p }
def Cyclic.fits (c:Cyclic):Bool:=c.h.sent.length=0||(Nat.blt c.h.sent.length c.n1&&Nat.ble (size c.h.sent+(c.h.next.headD []).length) c.n2)
def Cyclic.old (c:Cyclic):Cyclic×Unit :=
 let c:=if c.h.sent.length≤c.at_ then { c with at_:=0,force:=Nat.blt 0 c.h.next.length&&!c.fits } else c
 match c.h.at c.at_ with
 |none=>(c,c.fill)
 |some (n,p)=>({ c with at_:=c.at_+1 },c.msg n p)
def Cyclic.next (c:Cyclic):Cyclic×Unit :=
 let c:=if Nat.blt 0 c.h.next.length&&!c.fits then { c with force:=true } else c
 if !c.force then match c.h.send with
  |(h,some (n,p))=>({ c with h:=h },c.msg n p)
  |(_,none)=>c.old
 else c.old
def Cyclic.answer (c:Cyclic) (u:Unit):Cyclic×Option Nat :=
 let knows:=c.h.knows u.bsn
 let s:=see c.bsn (!knows)
 let c:={ c with bsn:=s.1 }
 if s.2 then (c,none) else if !knows then (c,some 0) else
  let f:=c.h.free u.bsn
  ({ c with h:=f.1,at_:=c.at_-f.2 },some f.2)
def Cyclic.take (c:Cyclic) (u:Unit):Cyclic×Option (Option (List Nat)) :=
 if u.kind≠2∨u.fsn≠rNext c.last then (c,some none) else ({ c with last:=u.fsn },some (some u.info))
def Cyclic.reset (c:Cyclic):Cyclic:=⟨c.h.clear,c.n1,c.n2,127,0,false,(false,false)⟩
inductive Way where
 |basic (b:Basic)
 |cyclic (c:Cyclic)
deriving DecidableEq,Repr
def Way.hold:Way→Hold
 |.basic b=>b.h
 |.cyclic c=>c.h
def Way.setHold:Way→Hold→Way
 |.basic b,h=>.basic { b with h:=h }
 |.cyclic c,h=>.cyclic { c with h:=h }
def Way.fill:Way→Unit
 |.basic b=>b.fill
 |.cyclic c=>c.fill
def Way.next:Way→Way×Unit
 |.basic b=>(.basic b.next.1,b.next.2)
 |.cyclic c=>(.cyclic c.next.1,c.next.2)
def Way.answer (u:Unit):Way→Way×Option Nat
 |.basic b=>(.basic (b.answer u).1,(b.answer u).2)
 |.cyclic c=>(.cyclic (c.answer u).1,(c.answer u).2)
def Way.take (u:Unit):Way→Way×Option (Option (List Nat))
 |.basic b=>(.basic (b.take u).1,(b.take u).2)
 |.cyclic c=>(.cyclic (c.take u).1,(c.take u).2)
def Way.reset:Way→Way
 |.basic b=>.basic b.reset
 |.cyclic c=>.cyclic c.reset
def Way.status (x:Way) (s:Nat):Unit:={ x.fill with kind:=1,status:=s }
abbrev qmd:=List Nat
def cStop (c:qmd) (l:List Nat):qmd:=l.foldl (fun c i=>c.set i 0) c
def cTick (c:qmd):qmd×List Nat:=(c.map (· - 1),(List.range 8).filter (fun i=>c.getD i 0==1))
def cZero:qmd:=[0,0,0,0,0,0,0,0]
structure Align where
 state:Nat
 own:Bool
 their:Bool
 p:Proof
deriving DecidableEq,Repr
structure Jam where
 own:Bool
 their:Bool
 due:Bool
deriving DecidableEq,Repr
structure Told where
 kind:Nat
 why:Nat
 p:List Nat
deriving DecidableEq,Repr
structure Link where
 t:List Nat
 s:Nat
 c:qmd
 a:Align
 j:Jam
 w:Way
 o:Outage
 leak:Leak
 told:List Told
 fails:Nat
deriving DecidableEq,Repr
namespace Link
def T (x:Link) (i:Nat):Nat:=x.t.getD i 0
def hurry (x:Link):Bool:=x.a.own||x.a.their
def start (x:Link) (i:Nat):Link:={ x with c:=x.c.set i (x.T i) }
def stop (x:Link) (l:List Nat):Link:={ x with c:=cStop x.c l }
def aBegin (x:Link):Link:=({ x with a:={ x.a with state:=1,their:=false,p:=⟨false,0,0⟩ } }.stop [0,3,4]).start 2
def aEnd (x:Link):Link:={ x with a:={ x.a with state:=0,their:=false } }.stop [0,2,3,4]
def prove (x:Link):Link :=
 let x:={ x with a:={ x.a with state:=3,p:=⟨x.hurry,0,x.a.p.tries⟩ } }.stop [0,2,3,4]
 if x.hurry then x.start 0 else x.start 4
def near (x:Link):Link:=({ x with a:={ x.a with state:=2 } }.stop [0,2,4]).start 3
def aHurry (x:Link) (on:Bool):Link :=
 let y:={ x with a:={ x.a with own:=on } }
 if x.a.state=3∧x.hurry=false∧on=true then y.prove else y
def aHeard (x:Link) (st:Nat):Link×Nat :=
 if x.a.state=0 then (x,0) else
  let was:=x.hurry
  let x:=if st=2 then { x with a:={ x.a with their:=true } } else x
  let proves:=st=1∨st=2
  if st=3∧x.a.state≠1 then (x,8)
  else if x.a.state=1∧(proves∨st=0) then (x.near,0)
  else if x.a.state=2∧proves then ({ x with a:={ x.a with p:=⟨false,0,0⟩ } }.prove,0)
  else if x.a.state=3∧st=0 then (x.near,0)
  else if x.a.state=3∧was=false∧x.hurry=true then (x.prove,0)
  else (x,0)
def aUnit (x:Link) (wrong:Bool):Link×Nat :=
 if x.a.state≠3 then (x,0) else
  let r:=x.a.p.unit wrong
  let x:={ x with a:={ x.a with p:=r.1 } }
  if r.2.2 then (x,5) else if r.2.1 then (x.prove,0) else (x,0)
def aOut (x:Link) (i:Nat):Link×Bool×Nat :=
 if (i=2∧x.a.state=1)∨(i=3∧x.a.state=2) then (x,false,7)
 else if (i=4∨i=0)∧x.a.state=3 then (x.aEnd,true,0) else (x,false,0)
def sends (x:Link):Nat:=if x.a.state=0 then 3 else if x.a.state=1 then 0 else if x.a.own then 2 else 1
def jBegin (x:Link):Link:=if x.j.own then x else { x with j:={ x.j with own:=true,due:=true } }.start 5
def jEnd (x:Link):Link:={ x with j:={ x.j with own:=false,due:=false } }.stop [5]
def jClear (x:Link):Link:={ x with j:=⟨false,false,false⟩ }.stop [5,6]
def jHeard (x:Link) (waits:Bool):Link×Bool :=
 let x:=if waits then x.start 7 else x
 if x.j.their then (x,false) else ({ x with j:={ x.j with their:=true } }.start 6,true)
def jAnswer (x:Link):Link×Bool:=if x.j.their then ({ x with j:={ x.j with their:=false } }.stop [6],true) else (x,false)
def jOut (x:Link) (i:Nat):Link×Nat :=
 if i=5∧x.j.own then ({ x with j:={ x.j with due:=true } }.start 5,0) else if i=6∧x.j.their then (x,3) else (x,0)
def tell (x:Link) (t:Told):Link:={ x with told:=x.told++[t] }
def fail (x:Link) (why:Nat):Link :=
 if x.s=0 then x else
  let x:=x.aEnd.jClear
  { x with c:=cZero,s:=0,leak:=⟨0,0⟩,o:=⟨x.o.own,false,false⟩,fails:=x.fails+1 }.tell ⟨2,why,[]⟩
def begin_ (x:Link):Link:={ x with w:=x.w.reset,s:=1,leak:=⟨0,0⟩,o:=⟨x.o.own,false,false⟩ }.aBegin
def wait (x:Link) (anew:Bool):Link :=
 if x.w.hold.sent.length=0 then x.stop [7] else if anew∨x.c.getD 7 0=0 then x.start 7 else x
def halt (x:Link):Link:=({ x with s:=5 }.jClear).stop [7]
def resume (x:Link):Link:=if x.s≠5∨x.o.is then x else { x with s:=4 }.wait false
def local_ (x:Link) (out:Bool):Link :=
 if x.o.own=out then x else
  let x:={ x with o:={ x.o with own:=out } }
  if x.s=4∧out then x.halt else if x.s=5 then x.resume else if x.s=2∧out then { x with s:=3 } else if x.s=3∧!out then { x with s:=2 } else x
def aligned (x:Link):Link:={ x with s:=if x.o.own then 3 else 2 }.start 1
def serve (x:Link):Link :=
 let x:={ x.stop [1] with s:=4 }.tell ⟨1,0,[]⟩
 if x.o.is then x.halt else x
def out (x:Link) (i:Nat):Link :=
 if x.s=0 then x
 else if x.s=1 then
  let r:=x.aOut i
  if r.2.2≠0 then r.1.fail r.2.2 else if r.2.1 then r.1.aligned else r.1
 else if i=1∧(x.s=2∨x.s=3) then x.fail 6
 else if i=7∧x.s=4 then x.fail 2
 else
  let r:=x.jOut i
  if r.2≠0 then r.1.fail r.2 else r.1
def tick (x:Link):Link :=
 let r:=cTick x.c
 r.2.foldl out { x with c:=r.1 }
def count (x:Link) (wrong:Bool):Link :=
 if x.s=0 then x
 else if x.s=1 then
  let r:=x.aUnit wrong
  if r.2≠0 then r.1.fail r.2 else r.1
 else
  let r:=x.leak.unit wrong
  let x:={ x with leak:=r.1 }
  if r.2 then x.fail 1 else x
def remote (x:Link) (out:Bool):Link :=
 let x:=if x.s=2∨x.s=3 then x.serve else x
 let r:=x.o.remote out
 let x:={ x with o:=r.1 }
 if r.2=false then x
 else if out then
  let x:=x.tell ⟨4,0,[]⟩
  if x.s=4 then x.halt else x
 else (x.tell ⟨5,0,[]⟩).resume
def status (x:Link) (st:Nat):Link :=
 if x.s=1 then
  let r:=x.aHeard st
  if r.2≠0 then r.1.fail r.2 else r.1
 else if st=3 then x.fail 8
 else if st=0∨(4≤x.s∧(st=1∨st=2)) then x.fail 9
 else if st=4 then x.remote true
 else if st=5∧x.s=4 then
  let r:=x.jHeard (Nat.blt 0 x.w.hold.sent.length)
  if r.2 then r.1.tell ⟨6,0,[]⟩ else r.1
 else x
def ordinary (x:Link) (u:Unit):Link :=
 let x:=if x.s=2∨x.s=3 then x.serve else x
 let x:=if x.o.their then x.remote false else x
 let r:=x.w.answer u
 let x:={ x with w:=r.1 }
 match r.2 with
 |none=>x.fail 4
 |some k =>
  let x:=if 0<k∧x.s=4 then x.wait true else x
  let x:=if x.j.their∧(0<k∨x.w.hold.sent.length=0) then x.jAnswer.1.tell ⟨7,0,[]⟩ else x
  if x.o.own∨x.j.own then x else
   let r:=x.w.take u
   let x:={ x with w:=r.1 }
   match r.2 with
   |none=>x.fail 4
   |some none=>x
   |some (some p)=>x.tell ⟨3,0,p⟩
def hear (x:Link) (u:Unit):Link :=
 let x:=x.count false
 if x.s=0 then x else if u.kind=1 then x.status u.status else if x.s=1 then x else x.ordinary u
def next (x:Link):Link×Unit :=
 if x.s=0∨x.s=1 then (x,x.w.status x.sends)
 else if x.s=2 then (x,x.w.fill)
 else if x.s=4 then
  (if x.j.due then ({ x with j:={ x.j with due:=false } },x.w.status 5)
  else
   let r:=x.w.next
   ({ x with w:=r.1 }.wait false,r.2))
 else if x.o.own then (x,x.w.status 4) else (x,x.w.fill)
def order (x:Link) (k:Nat) (p:List Nat):Link×Nat :=
 if k=1 then (if x.s≠0 then (x,9) else (x.begin_,0))
 else if k=2 then (if x.s=0 then (x,9) else (x.fail 10,0))
 else if k=3∨k=4 then (x.aHurry (k==3),0)
 else if k=5 then (if x.s=4∨x.s=5 then (let r:=x.w.hold.put p;({ x with w:=x.w.setHold r.1 },r.2)) else (x,12))
 else if k=6∨k=7 then (x.local_ (k==6),0)
 else if k=8 then ({ x with w:=x.w.setHold { x.w.hold with next:=[] } },0)
 else if k=9 then
  (let r:=x.o.continue
  if r.2 then ({ x with o:=r.1 }.resume,0) else ({ x with o:=r.1 },9))
 else if k=10∨k=11 then
  (if x.s=4∨x.s=5 then (if k=10 then (x.jBegin,0) else (x.jEnd,0)) else (x,9))
 else (x,1)
end Link
def stuffed:Nat→List Bool→List Bool
 |_,[]=>[]
 |n,true::t=>if n=4 then true::false::stuffed 0 t else true::stuffed (n+1) t
 |_,false::t=>false::stuffed 0 t
def bared:Nat→List Bool→Option (List Bool)
 |n,[]=>if n=5 then none else some []
 |n,b::t=>if n=5 then (if b then none else bared 0 t) else (bared (if b then n+1 else 0) t).map (b::·)
def octet (b:Nat):List Bool:=[b.testBit 0,b.testBit 1,b.testBit 2,b.testBit 3,b.testBit 4,b.testBit 5,b.testBit 6,b.testBit 7]
def bitsOf (l:List Nat):List Bool:=l.flatMap octet
def bval (b:Bool):Nat:=if b then 1 else 0
def octets:List Bool→List Nat
 |a::b::c::d::e::f::g::h::t=>(bval a+2*bval b+4*bval c+8*bval d+16*bval e+32*bval f+64*bval g+128*bval h)::octets t
 |_=>[]
def quf (r:Nat) (b:Bool):Nat:=if (r.testBit 0) != b then (r >>> 1) ^^^ 33800 else r >>> 1
def crc (t:List Bool):Nat:=t.foldl quf 65535
def chk (p:List Nat):List Nat:=let r:=65535 ^^^ crc (bitsOf p);[r%256,r/256]
def flagBits:List Bool:=[false,true,true,true,true,true,true,false]
def frame (p:List Nat):List Bool:=if p.length<3∨277<p.length then [] else stuffed 0 (bitsOf (p++chk p))++flagBits
def judge (t:List Bool):Option (List Nat):=match bared 0 t with
 |none=>none
 |some l=>if l.length%8≠0 then none else
   let p:=octets l
   if p.length<5∨279<p.length then none
   else if crc l=61624 then some (p.take (p.length-2)) else none
structure Ear where
 inb:List Bool 
 len:Nat
 ones:Nat
 found:Bool
 n:Nat
deriving DecidableEq,Repr
def Ear.bit (e:Ear) (on:Bool):Ear×Option (Option (List Nat)) :=
 if e.found then
  if on then (if 7≤e.ones+1 then (⟨[],0,e.ones+1,false,0⟩,none) else (⟨true::e.inb,e.len+1,e.ones+1,true,e.n⟩,none))
  else if e.ones=6 then (⟨[],0,0,true,e.n⟩,if e.len+1≤8 then none else some (judge (e.inb.drop 7).reverse))
  else if 2687<e.len+1 then (⟨[],0,0,false,0⟩,none) else (⟨false::e.inb,e.len+1,0,true,e.n⟩,none)
 else
  if on then (if e.n+1=128 then (⟨e.inb,e.len,e.ones+1,false,0⟩,some none) else (⟨e.inb,e.len,e.ones+1,false,e.n+1⟩,none))
  else if e.ones=6 then (⟨[],0,0,true,0⟩,none)
  else if e.n+1=128 then (⟨e.inb,e.len,0,false,0⟩,some none) else (⟨e.inb,e.len,0,false,e.n+1⟩,none)
structure Post where
 x:Link
 ear:Ear
 out:List Bool
deriving DecidableEq,Repr
def Post.hear (p:Post) (h:Option (List Nat)):Post:=match h with
 |none=>{ p with x:=p.x.count true }
 |some q =>
  let u:=decode q
  if u.2≠0 then { p with x:=p.x.count true } else { p with x:=p.x.hear u.1 }
def Post.inBit (p:Post) (on:Bool):Post :=
 let r:=p.ear.bit on
 let p:={ p with ear:=r.1 }
 match r.2 with
 |none=>p
 |some h=>p.hear h
def Post.outBit (p:Post):Post×Bool:=match p.out with
 |b::t=>({ p with out:=t },b)
 |[] =>
  let r:=p.x.next
  match frame r.2.encode.1 with
  |b::t=>({ p with x:=r.1,out:=t },b)
  |[]=>({ p with x:=r.1 },false)
def Post.outBits:Nat→Post→Post×List Bool
 |0,p=>(p,[])
 |n+1,p=>let r:=p.outBit;let q:=Post.outBits n r.1;(q.1,r.2::q.2)
def Post.tick (p:Post) (inp:List Bool):Post×List Bool:=Post.outBits 8 (inp.foldl Post.inBit { p with x:=p.x.tick })
structure Wire where
 l:List Bool
 mask:List Bool
 ones:Nat
deriving DecidableEq,Repr
def Wire.pass (w:Wire) (on:Bool):Wire×Bool :=
 let (on,mask):=match w.mask with
  |[]=>(on,[])
  |m::r=>(on != m,r)
 let (on,ones):=if 0<w.ones then (true,w.ones-1) else (on,0)
 match w.l with
 |[]=>(⟨[],mask,ones⟩,on)
 |b::r=>(⟨r++[on],mask,ones⟩,b)
def Wire.passes (w:Wire):List Bool→Wire×List Bool
 |[]=>(w,[])
 |b::t=>let r:=w.pass b;let q:=r.1.passes t;(q.1,r.2::q.2)
structure Pair where
 p0:Post
 p1:Post
 w0:Wire
 w1:Wire
 n0:List Bool
 n1:List Bool
 out0:List (List Nat) 
 out1:List (List Nat)
deriving DecidableEq,Repr
def msgs (l:List Told):List (List Nat):=(l.filter (fun t=>t.kind==3)).map (·.p)
def Pair.tick (x:Pair):Pair :=
 let a:=x.p0.tick x.n0
 let b:=x.p1.tick x.n1
 let u:=x.w0.passes a.2
 let v:=x.w1.passes b.2
 ⟨{ a.1 with x:={ a.1.x with told:=[] } },{ b.1 with x:={ b.1.x with told:=[] } },u.1,v.1,v.2,u.2,x.out0++msgs a.1.x.told,x.out1++msgs b.1.x.told⟩
def Pair.ticks:Nat→Pair→Pair
 |0,x=>x
 |n+1,x=>Pair.ticks n x.tick
def usualT:List Nat:=[600,12000,8000,4000,1200,100,4000,6000]
def newHold:Hold:=⟨16,600,[],0,[]⟩
def qsm (cyclic:Bool):Way:=if cyclic then .cyclic ⟨newHold,8,300,127,0,false,(false,false)⟩ else .basic ⟨newHold,true,true,127,false,none,(false,false),(false,false)⟩
def newLink (cyclic:Bool) (t:List Nat):Link:=⟨t,0,cZero,⟨0,false,false,⟨false,0,0⟩⟩,⟨false,false,false⟩,qsm cyclic,⟨false,false,false⟩,⟨0,0⟩,[],0⟩
def newPost (cyclic:Bool) (t:List Nat):Post:=⟨newLink cyclic t,⟨[],0,0,false,0⟩,flagBits⟩
def newPair (cyclic:Bool) (t:List Nat) (d:Nat):Pair:=⟨newPost cyclic t,newPost cyclic t,⟨List.replicate d false,[],0⟩,⟨List.replicate d false,[],0⟩,List.replicate 8 false,List.replicate 8 false,[],[]⟩
def Pair.start0 (x:Pair):Pair:={ x with p0:={ x.p0 with x:=(x.p0.x.order 1 []).1 } }
def Pair.start1 (x:Pair):Pair:={ x with p1:={ x.p1 with x:=(x.p1.x.order 1 []).1 } }
def Pair.send0 (x:Pair) (p:List Nat):Pair:={ x with p0:={ x.p0 with x:=(x.p0.x.order 5 p).1 } }
def frameT:Nat:=(279*8+279*8/5+15)/8+1
def wayT (d:Nat):Nat:=(d+7)/8+2*frameT+2
def inService (t:List Nat) (d gap:Nat):Nat:=gap+t.getD 4 0+6*wayT d
end Sig
namespace Go.Proofs.YtjbijdmcceloaaaGreat.Top
open Go Go.RowKit Go.Proofs.YtjbijdmcceloaaaGreat Go.Proofs.YtjbijdmcceloaaaGreatW.PrintWords Go.Proofs.YtjbijdmcceloaaaGreatW.PrintLast Go.Proofs.YtjbijdmcceloaaaGreatW.PrintMore
def Blk (w:World) (g t:Nat) (cs:List Value):Prop:=w.heap[g]?=some (.cells cs.toArray t (0,0))
theorem Blk.c {w:World} {g t:Nat} {cs:List Value} (h:Blk w g t cs) (i:Nat) {v:Value} (e:cs[i]?=some v):w.cell? ⟨g,i,none⟩=some v:=(qb4 h i).trans (by rw[List.getElem?_toArray];exact e)
theorem Blk.f {w:World} {g t:Nat} {cs:List Value} (h:Blk w g t cs) (i:Nat):w.frozen? ⟨g,i,none⟩=false:=qbj h i
theorem Blk.lt {w:World} {g t:Nat} {cs:List Value} (h:Blk w g t cs):g<w.heap.size:=qwd h
theorem Blk.set {w:World} {g t:Nat} {cs:List Value} (h:Blk w g t cs) (i:Nat) (u:Value):Blk (w.setCell ⟨g,i,none⟩ u) g t (cs.set i u):=by
 have e:=ql3 h i u;rw[List.setIfInBounds_toArray] at e;exact e
theorem Blk.far {w:World} {g t:Nat} {cs:List Value} (h:Blk w g t cs) {p:Addr} (hp:g≠p.block) (u:Value):Blk (w.setCell p u) g t cs:=qui h hp u
theorem Blk.ne {w:World} {g t g' t':Nat} {cs cs':List Value} (h:Blk w g t cs) (h':Blk w g' t' cs') (ht:t≠t'):g≠g':=fun e=>by
 subst e;have:=h.symm.trans h';simp at this;exact ht this.2
structure Only (P:Nat→Prop) (w w':World):Prop where
 os:w'.os=w.os
 tape:w'.tape=w.tape
 output:w'.output=w.output
 size:w.heap.size≤w'.heap.size
 block:∀k,k<w.heap.size→¬P k→w'.heap[k]?=w.heap[k]?
theorem Only.refl (P:Nat→Prop) (w:World):Only P w w:=⟨rfl,rfl,rfl,Nat.le_refl _,fun _ _ _=>rfl⟩
theorem Only.mono {P Q:Nat→Prop} {w w':World} (h:Only P w w') (hq:∀k,P k→Q k):Only Q w w':=⟨h.os,h.tape,h.output,h.size,fun k hk hn=>h.block k hk (fun hp=>hn (hq k hp))⟩
theorem Only.set {P:Nat→Prop} {w w':World} (h:Only P w w') {p:Addr} (hp:P p.block) (u:Value):Only P w (w'.setCell p u) :=
 ⟨h.os,h.tape,h.output,by simpa [World.setCell] using h.size,fun k hk hn=>(Below.heap_setCell w' p u k (fun e=>hn (e▸hp))).trans (h.block k hk hn)⟩
theorem Only.drewN {P:Nat→Prop} {w w':World} (h:Only P w w') (n:Nat):Only P w (w'.drewN n):=⟨h.os,h.tape,h.output,h.size,h.block⟩
theorem Only.trans {P:Nat→Prop} {w w1 w2:World} (h:Only P w w1) (h':Only P w1 w2):Only P w w2:=⟨h'.os.trans h.os,h'.tape.trans h.tape,h'.output.trans h.output,Nat.le_trans h.size h'.size,fun k hk hn=>(h'.block k (Nat.lt_of_lt_of_le hk h.size) hn).trans (h.block k hk hn)⟩
theorem Blk.only {P:Nat→Prop} {w w':World} {g t:Nat} {cs:List Value} (h:Blk w g t cs) (ho:Only P w w') (hp:¬P g):Blk w' g t cs:=(ho.block g h.lt hp).trans h
def qdg (c:List Nat):List Value:=c.map fun (n:Nat)=>Value.int .i64 (n:Int)
structure ClockAt (w:World) (g:Nat) (c:List Nat):Prop where
 len:c.length=8
 blk:Blk w g 152 (qdg c)
theorem qgt (c:List Nat) (i:Nat) (h:i<c.length):(qdg c)[i]?=some (.int .i64 ((c.getD i 0:Nat):Int)):=by
 simp[qdg,List.getD_eq_getElem?_getD,List.getElem?_eq_getElem h]
theorem qkq (c:List Nat) (i n:Nat):(qdg c).set i (.int .i64 (n:Int))=qdg (c.set i n):=by
 simp[qdg,List.map_set]
theorem qk7 (g:Nat) (c:List Nat) (i n:Nat) (w:World) (h:ClockAt w g c) (hi:i<8) (h1:1≤n) (h2:n≤4294967296) :
  Calls Tryz.prog 96 #[.pointer (some ⟨g,0,none⟩),.int .i64 i,.int .i64 n] w fun e w'=>e=.returned (.int .i64 0)∧ClockAt w' g (c.set i n)∧Only (·=g) w w':=by
 have d1:decide ((n:Int)<1)=false:=decide_eq_false (by omega);have d2:decide (4294967296<(n:Int))=false:=decide_eq_false (by omega);have p1:=eq_true (show 0≤(i:Int) by omega);have p2:=eq_true (show (i:Int)<8 by omega);have b1:decide (0≤(i:Int))=true:=decide_eq_true (by omega);have b2:decide ((i:Int)<8)=true:=decide_eq_true (by omega);have c1:=h.blk.c i (qgt c i (by rw[h.len];exact hi));have f1:=h.blk.f i;go_enter Tryz.func96,Tryz.ntmps96;go_wp2;go_ret;refine⟨rfl,⟨by rw[List.length_set];exact h.len,?_⟩,(Only.refl (·=g) w).set rfl _⟩;rw[←qkq];exact h.blk.set i _
def qsw (w:World) (A:Option Addr) (l:List Nat):Prop:=ReadsOf (fun n:Nat=>Value.int .i64 (n:Int)) 0 w A l.length l
theorem qm9 (g:Nat) (c:List Nat) (A:Option Addr) (l:List Nat) (w:World) (h:ClockAt w g c) (hr:qsw w A l) (hA:∀ad,A=some ad→ad.block≠g) (hl:∀i∈l,i<8) (hn:l.length≤8) :
  Calls Tryz.prog 97 #[.pointer (some ⟨g,0,none⟩),.slice A l.length l.length] w fun e w'=>e=.returned (.tuple #[])∧ClockAt w' g (Sig.cStop c l)∧Only (·=g) w w':=by
 have HR:=am hr;have HA:=am hA;have HL:=am hl;have HC:=am h;clear hr hA hl h;go_enter Tryz.func97,Tryz.ntmps97;go_wp2;go_loopw [8] (fun v8 wr=>∃i:Nat,i≤l.length∧v8=.int .i64 i∧qac (ClockAt wr g (Sig.cStop c (l.take i)))∧qac (Only (·=g) w wr)) (fun v8 _=>l.length-(intOf v8).toNat)
 case atStart=>exact⟨0,Nat.zero_le _,rfl,HC,⟨Only.refl _ _⟩⟩
 case round =>
  obtain⟨i,hi,rfl,HK,HO⟩:=hrel;clear HC;by_cases hlt:i<l.length
  ·have b1:decide ((i:Int)<(l.length:Int))=true:=decide_eq_true (by omega);have p1:=eq_true (show 0≤(i:Int) by omega);have p2:=eq_true (show (i:Int)<(l.length:Int) by omega);obtain⟨ad,e,hc⟩:=HR.out.2.2 (by omega);cases e
   have hx:=hc i hlt;have hne:=HA.out ad rfl;have hi8:=HL.out l[i] (List.getElem_mem hlt);have hx2:wr.cell? (ad.add i)=some (.int .i64 ((l[i]:Nat):Int)):=by
    refine(World.cell?_of_block (w:=w) (HO.out.block _ ?_ ?_)).trans ?_
    ·rw[qg2];have:=World.block_lt_of_cell? _ _ hx;rwa [qg2] at this
    ·rw[qg2];exact hne
    ·rw[hx];simp[List.getD_eq_getElem?_getD,List.getElem?_eq_getElem hlt]
   have hlen:=HK.out.len;have c1:=HK.out.blk.c l[i] (qgt _ l[i] (by rw[hlen];exact hi8));have f1:=HK.out.blk.f l[i];have hst:Sig.cStop c (l.take (i+1))=(Sig.cStop c (l.take i)).set l[i] 0:=by
    unfold Sig.cStop;rw[List.take_succ_eq_append_getElem hlt,List.foldl_append];rfl
   generalize l[i]=x at hx hx2 hi8 c1 f1 hst;have HST:=am hst;have p3:=eq_true (show 0≤(x:Int) by omega);have p4:=eq_true (show (x:Int)<8 by omega);have b3:decide (0≤(x:Int))=true:=decide_eq_true (by omega);have b4:decide ((x:Int)<8)=true:=decide_eq_true (by omega);clear hst hx hc hlen;go_wp2
   go_roundw
   case rel =>
    refine⟨i+1,by omega,by first|rfl|(simp;done),⟨?_⟩,⟨HO.out.set rfl _⟩⟩;rw[HST.out];exact⟨by rw[List.length_set];exact HK.out.len,by rw[←qkq];exact HK.out.blk.set x _⟩
   case measure=>(simp[intOf];omega)
  ·obtain rfl:i=l.length:=by omega
   have b1:decide ((l.length:Int)<(l.length:Int))=false:=decide_eq_false (by omega);rw[List.take_length] at HK;go_wp2;go_end0;exact⟨rfl,HK.out,HO.out⟩
theorem qv4 {c:List Nat} (h:c.length=8):∃a0 a1 a2 a3 a4 a5 a6 a7,c=[a0,a1,a2,a3,a4,a5,a6,a7]:=by
 match c,h with
 |[a0,a1,a2,a3,a4,a5,a6,a7],_=>exact⟨a0,a1,a2,a3,a4,a5,a6,a7,rfl⟩
theorem ql1 (g:Nat) (c:List Nat) (w:World) (h:ClockAt w g c) :
  Calls Tryz.prog 87 #[.pointer (some ⟨g,0,none⟩)] w fun e w'=>e=.returned (.tuple #[])∧ClockAt w' g Sig.cZero∧Only (·=g) w w':=by
 obtain⟨a0,a1,a2,a3,a4,a5,a6,a7,rfl⟩:=qv4 h.len;have c0:=h.blk.c 0 (v:=.int .i64 (a0:Nat)) rfl;have f0:=h.blk.f 0;have c1:=h.blk.c 1 (v:=.int .i64 (a1:Nat)) rfl;have f1:=h.blk.f 1;have c2:=h.blk.c 2 (v:=.int .i64 (a2:Nat)) rfl;have f2:=h.blk.f 2;have c3:=h.blk.c 3 (v:=.int .i64 (a3:Nat)) rfl;have f3:=h.blk.f 3;have c4:=h.blk.c 4 (v:=.int .i64 (a4:Nat)) rfl;have f4:=h.blk.f 4;have c5:=h.blk.c 5 (v:=.int .i64 (a5:Nat)) rfl;have f5:=h.blk.f 5;have c6:=h.blk.c 6 (v:=.int .i64 (a6:Nat)) rfl;have f6:=h.blk.f 6;have c7:=h.blk.c 7 (v:=.int .i64 (a7:Nat)) rfl;have f7:=h.blk.f 7;go_enter Tryz.func87,Tryz.ntmps87;go_wp2;go_end0;refine⟨rfl,⟨rfl,?_⟩,((((((((Only.refl (·=g) w).set rfl _).set rfl _).set rfl _).set rfl _).set rfl _).set rfl _).set rfl _).set rfl _⟩;exact(((((((h.blk.set 0 _).set 1 _).set 2 _).set 3 _).set 4 _).set 5 _).set 6 _).set 7 _
theorem qno (g:Nat) (c:List Nat) (i:Nat) (w:World) (h:ClockAt w g c) (hi:i<8) :
  Calls Tryz.prog 127 #[.pointer (some ⟨g,0,none⟩),.int .i64 i] w fun e w'=>e=.returned (.int .i64 ((c.getD i 0:Nat):Int))∧w=w':=by
 have p1:=eq_true (show 0≤(i:Int) by omega);have p2:=eq_true (show (i:Int)<8 by omega);have b1:decide (0≤(i:Int))=true:=decide_eq_true (by omega);have b2:decide ((i:Int)<8)=true:=decide_eq_true (by omega);have c1:=h.blk.c i (qgt c i (by rw[h.len];exact hi));go_enter Tryz.func127,Tryz.ntmps127;go_wp2;go_ret;exact⟨rfl,rfl⟩
end Go.Proofs.YtjbijdmcceloaaaGreat.Top
