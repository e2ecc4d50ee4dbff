/- Code over the small heap -/
import Derived.Test.YtlmhajfbpplpoaaGreatMAI
set_option linter.all false
namespace Go.Proofs.YtlmhajfbpplpoaaGreat
open Option.some renaming injEq->ξ
open Go.RowKit
def logged{α:Type}(m:AM α):AM (α × Foot):=λH=>match m H with
 |some (a,H',f)=>some ((a,f),H',f)
 |none=>none
theorem Loc.logged{α:Type}{m:AM α}(h:Loc m):Loc (logged m):=λH r H' ft hw hr=>by
 obtain⟨a,f⟩:=r;unfold Go.Proofs.YtlmhajfbpplpoaaGreat.logged at hr;rcases e:m H with _|⟨a',H1,f1⟩<;>rw[e]at hr
 .cases hr
 simp only[ξ,Prod.mk.injEq]at hr;obtain⟨⟨rfl,rfl⟩,rfl,rfl⟩:=hr;have L:=h H a' H1 f1 hw e;refine⟨L.next,L.top,L.fit,L.wf,L.new,L.bound,L.same,λK hn hfit hag=>?_⟩;obtain⟨K',k1,k2⟩:=L.move K hn hfit hag;exact⟨K',by unfold Go.Proofs.YtlmhajfbpplpoaaGreat.logged;rw[k1],k2⟩
def logRun(P:Program)(Γ:FuncId->Ab->AM AV)(ops:Array Oper)(l:List Oper)(T:Ab):AM (Ab × List Foot):=λH=>match Gm P Γ ops l T H with
 |some (T',H',fs)=>some ((T',fs),H',⟨fs.flatMap (·.rd),fs.flatMap (·.wr)⟩)
 |none=>none
theorem Vw(P:Program)(Γ:FuncId->Ab->AM AV)(ops:Array Oper)(o:Oper)(r:List Oper)(T:Ab) :
  logRun P Γ ops (o::r) T=(logged (coreA P Γ ops o T)).bind λvf=>(logRun P Γ ops r (Cx T o.dst vf.1)).bind λq=>AM.ret (q.1,vf.2::q.2):=by
 funext H
 simp only[logRun,Gm,NU,AM.bind,logged,AM.ret];rcases coreA P Γ ops o T H with _|⟨v,H1,f⟩
 .rfl
 simp only;rcases Gm P Γ ops r (Cx T o.dst v) H1 with _|⟨T2,H2,fs⟩
 .rfl
 .simp
theorem Loc.logRun{P:Program}{Γ:FuncId->Ab->AM AV}(hL:∀ f args,Loc (Γ f args)){ops:Array Oper}:∀(l:List Oper) (T:Ab),Loc (logRun P Γ ops l T)
 |[],T=>by
  have:Go.Proofs.YtlmhajfbpplpoaaGreat.logRun P Γ ops [] T=AM.ret (T,[]):=by funext H;simp[Go.Proofs.YtlmhajfbpplpoaaGreat.logRun,Gm,AM.ret]
  rw[this];exact Loc.ret _
 |o::r,T=>by
  rw[Vw];exact Loc.bind (Loc.logged (Loc.coreA hL ops o T)) λ_=>Loc.bind (Loc.logRun hL r _) λ_=>Loc.ret _
def AjG(P:Program)(Γ:FuncId->Ab->AM AV)(ops:Array Oper)(draw:Bool)(T:Ab):AM Ab:=
 (logRun P Γ ops ops.toList T).bind λr=>if draw=true then(if Fe (Uj ops) r.2=true then AM.ret r.1 else AM.fail) else AM.ret r.1
def ev(P:Program)(Γ:FuncId->Ab->AM AV):Nat->Code->Ab->AM (AX × Ab)
 |0,_,_=>AM.fail
 |n+1,c,T=>match c with
  |.skip=>AM.ret (.normal,T)
  |.label _=>AM.ret (.normal,T)
  |.exit id=>AM.ret (.exit id,T)
  |.ret=>AM.ret (.ret,T)
  |.goto l=>AM.ret (.goto l,T)
  |.scope (.seq R (.seq (.label l) X))=>if(findLabel R l).isNone=true then(ev P Γ n R T).bind λr=>match r.1 with
    |.normal=>(ev P Γ n X r.2).bind λq=>match q.1 with
     |.goto l'=>if l'=l then ev P Γ n (.scope (.seq .skip (.seq (.label l) X))) q.2 else AM.fail
     |ax=>AM.ret (ax,q.2)
    |.goto _=>AM.fail
    |ax=>AM.ret (ax,r.2)
   else AM.fail
  |.region _ ops draw=>(AjG P Γ ops draw T).bind λT'=>AM.ret (.normal,T')
  |.seq x y=>(ev P Γ n x T).bind λr=>match r.1 with
   |.normal=>ev P Γ n y r.2
   |ax=>AM.ret (ax,r.2)
  |.cond c x y=>(match AS T c with
   |.v (.bool t)=>if t=true then ev P Γ n x T else ev P Γ n y T
   |_=>AM.fail)
  |.block id c=>(ev P Γ n c T).bind λr=>match r.1 with
   |.exit i=>if i=id then AM.ret (.normal,r.2) else AM.ret (.exit i,r.2)
   |ax=>AM.ret (ax,r.2)
  |.loop c=>(ev P Γ n c T).bind λr=>match r.1 with
   |.normal=>ev P Γ n (.loop c) r.2
   |ax=>AM.ret (ax,r.2)
  |_=>AM.fail
theorem Loc.ev{P:Program}{Γ:FuncId->Ab->AM AV}(hL:∀ f args,Loc (Γ f args)):∀(n:Nat) (c:Code) (T:Ab),Loc (ev P Γ n c T)
 |0,_,_=>Loc.fail
 |n+1,c,T=>by
  have ih:∀(c:Code) (T:Ab),Loc (Go.Proofs.YtlmhajfbpplpoaaGreat.ev P Γ n c T):=λc T=>Loc.ev hL n c T
  unfold Go.Proofs.YtlmhajfbpplpoaaGreat.ev;split
  .exact Loc.ret _
  .exact Loc.ret _
  .exact Loc.ret _
  .exact Loc.ret _
  .exact Loc.ret _
  .refine Loc.ite (Loc.bind (ih _ T) λr=>?_) Loc.fail
   split
   .refine Loc.bind (ih _ _) λq=>?_
    split
    .exact Loc.ite (ih _ _) Loc.fail
    .exact Loc.ret _
   .exact Loc.fail
   .exact Loc.ret _
  .exact Loc.bind (Loc.bind (Loc.logRun hL _ _) λ_=>Loc.ite (Loc.ite (Loc.ret _) Loc.fail) (Loc.ret _)) λ_=>Loc.ret _
  .grind [Loc.bind,Loc.ret]
  .split
   .grind
   .exact Loc.fail
  .refine Loc.bind (ih _ T) λr=>?_
   split
   .simp_all [Loc.ite,Loc.ret]
   .exact Loc.ret _
  .grind [Loc.bind,Loc.ret]
  .exact Loc.fail
