/-
  Code over the small heap, computed with fuel. No program in sight.
-/
import Derived.Test.YtpncilciembjdaaGreatDoorAAE
set_option linter.unusedSectionVars false
set_option linter.unusedSimpArgs false
set_option linter.unusedVariables false
namespace Go.Proofs.YtpncilciembjdaaGreatDoor
open Go.RowKit

def logged{α:Type}(m:AM α):AM (α × Foot):=fun H=>match m H with
 |some (a,H',f)=>some ((a,f),H',f)
 |none=>none
theorem Loc.logged{α:Type}{m:AM α}(h:Loc m):Loc (logged m):=fun H r H' ft hw hr=>by
 obtain⟨a,f⟩:=r
 unfold Go.Proofs.YtpncilciembjdaaGreatDoor.logged at hr
 rcases e:m H with _|⟨a',H1,f1⟩<;>rw[e]at hr
 .cases hr
 simp only[Option.some.injEq,Prod.mk.injEq]at hr
 obtain⟨⟨rfl,rfl⟩,rfl,rfl⟩:=hr
 have L:=h H a' H1 f1 hw e
 refine⟨L.next,L.top,L.fit,L.wf,L.new,L.bound,L.same,fun K hn hfit hag=>?_⟩
 obtain⟨K',k1,k2⟩:=L.move K hn hfit hag
 exact⟨K',by unfold Go.Proofs.YtpncilciembjdaaGreatDoor.logged;rw[k1],k2⟩
def logRun(P:Program)(Γ:FuncId->List AV->AM AV)(ops:Array Oper)(l:List Oper)(T:List AV):AM (List AV × List Foot):=fun H=>match runL P Γ ops l T H with
 |some (T',H',fs)=>some ((T',fs),H',⟨fs.flatMap (·.rd),fs.flatMap (·.wr)⟩)
 |none=>none
theorem logRun_cons(P:Program)(Γ:FuncId->List AV->AM AV)(ops:Array Oper)(o:Oper)(r:List Oper)(T:List AV) :
  logRun P Γ ops (o::r) T=(logged (coreA P Γ ops o T)).bind fun vf=>(logRun P Γ ops r (dstSet T o.dst vf.1)).bind fun q=>AM.ret (q.1,vf.2::q.2):=by
 funext H
 simp only[logRun,runL,stepA,AM.bind,logged,AM.ret]
 rcases coreA P Γ ops o T H with _|⟨v,H1,f⟩
 .rfl
 simp only
 rcases runL P Γ ops r (dstSet T o.dst v) H1 with _|⟨T2,H2,fs⟩
 .rfl
 .simp
theorem Loc.logRun{P:Program}{Γ:FuncId->List AV->AM AV}(hL:∀ f args,Loc (Γ f args)){ops:Array Oper}:∀(l:List Oper) (T:List AV),Loc (logRun P Γ ops l T)
 |[],T=>by
  have:Go.Proofs.YtpncilciembjdaaGreatDoor.logRun P Γ ops [] T=AM.ret (T,[]):=by funext H;simp[Go.Proofs.YtpncilciembjdaaGreatDoor.logRun,runL,AM.ret]
  rw[this];exact Loc.ret _
 |o::r,T=>by
  rw[logRun_cons]
  exact Loc.bind (Loc.logged (Loc.coreA hL ops o T)) fun _=>Loc.bind (Loc.logRun hL r _) fun _=>Loc.ret _
def regionM(P:Program)(Γ:FuncId->List AV->AM AV)(ops:Array Oper)(draw:Bool)(T:List AV):AM (List AV):=
 (logRun P Γ ops ops.toList T).bind fun r=>if draw=true then(if heapOk (bef ops) r.2=true then AM.ret r.1 else AM.fail) else AM.ret r.1
def ev(P:Program)(Γ:FuncId->List AV->AM AV):Nat->Code->List AV->AM (AX × List AV)
 |0,_,_=>AM.fail
 |n+1,c,T=>match c with
  |.skip=>AM.ret (.normal,T)
  |.label _=>AM.ret (.normal,T)
  |.exit id=>AM.ret (.exit id,T)
  |.ret=>AM.ret (.ret,T)
  |.goto l=>AM.ret (.goto l,T)
  |.scope (.seq R (.seq (.label l) X))=>if(findLabel R l).isNone=true then(ev P Γ n R T).bind fun r=>match r.1 with
    |.normal=>(ev P Γ n X r.2).bind fun q=>match q.1 with
     |.goto l'=>if l'=l then ev P Γ n (.scope (.seq .skip (.seq (.label l) X))) q.2 else AM.fail
     |ax=>AM.ret (ax,q.2)
    |.goto _=>AM.fail
    |ax=>AM.ret (ax,r.2)
   else AM.fail
  |.region _ ops draw=>(regionM P Γ ops draw T).bind fun T'=>AM.ret (.normal,T')
  |.seq x y=>(ev P Γ n x T).bind fun r=>match r.1 with
   |.normal=>ev P Γ n y r.2
   |ax=>AM.ret (ax,r.2)
  |.cond c x y=>(match opdA T c with
   |.v (.bool t)=>if t=true then ev P Γ n x T else ev P Γ n y T
   |_=>AM.fail)
  |.block id c=>(ev P Γ n c T).bind fun r=>match r.1 with
   |.exit i=>if i=id then AM.ret (.normal,r.2) else AM.ret (.exit i,r.2)
   |ax=>AM.ret (ax,r.2)
  |.loop c=>(ev P Γ n c T).bind fun r=>match r.1 with
   |.normal=>ev P Γ n (.loop c) r.2
   |ax=>AM.ret (ax,r.2)
  |_=>AM.fail
theorem Loc.ev{P:Program}{Γ:FuncId->List AV->AM AV}(hL:∀ f args,Loc (Γ f args)):∀(n:Nat) (c:Code) (T:List AV),Loc (ev P Γ n c T)
 |0,_,_=>Loc.fail
 |n+1,c,T=>by
  have ih:∀(c:Code) (T:List AV),Loc (Go.Proofs.YtpncilciembjdaaGreatDoor.ev P Γ n c T):=fun c T=>Loc.ev hL n c T
  unfold Go.Proofs.YtpncilciembjdaaGreatDoor.ev
  split
  .exact Loc.ret _
  .exact Loc.ret _
  .exact Loc.ret _
  .exact Loc.ret _
  .exact Loc.ret _
  .refine Loc.ite (Loc.bind (ih _ T) fun r=>?_) Loc.fail
   split
   .refine Loc.bind (ih _ _) fun q=>?_
    split
    .exact Loc.ite (ih _ _) Loc.fail
    .exact Loc.ret _
   .exact Loc.fail
   .exact Loc.ret _
  .exact Loc.bind (Loc.bind (Loc.logRun hL _ _) fun _=>Loc.ite (Loc.ite (Loc.ret _) Loc.fail) (Loc.ret _)) fun _=>Loc.ret _
  .refine Loc.bind (ih _ T) fun r=>?_
   split
   .exact ih _ _
   .exact Loc.ret _
  .split
   .exact Loc.ite (ih _ T) (ih _ T)
   .exact Loc.fail
  .refine Loc.bind (ih _ T) fun r=>?_
   split
   .exact Loc.ite (Loc.ret _) (Loc.ret _)
   .exact Loc.ret _
  .refine Loc.bind (ih _ T) fun r=>?_
   split
   .exact ih _ _
   .exact Loc.ret _
  .exact Loc.fail

end Go.Proofs.YtpncilciembjdaaGreatDoor
