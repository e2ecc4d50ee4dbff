/- Layer 14's alive: its pa -/
import Derived.Test.YtlmhajfbpplpoaaGreatMAS
set_option linter.all false
open Bool renaming false->Θ,true->U,and_eq_true->AvF,and_eq_true_iff->AxD,false_and->Awb,true_and->AvR
open Int renaming natAbs_mul->AyN,natAbs_neg->Axo,natCast_mul->AxV
open List renaming all_cons->Axc,append_assoc->AvO,drop->AvI,drop_append->Ayb,drop_drop->AxJ,drop_eq_getElem_cons->ω,drop_eq_nil_of_le->ο,drop_zero->κ,foldl_cons->Axu,getElem?_cons_succ->Awa,getElem?_eq_getElem->Ω,length->AyC,length_append->ζ,length_cons->ε,length_eq_zero_iff->Awn,length_set->Awf,length_singleton->Awo,length_take->Av6,map_take->AyR,mem_append->Awg,mem_cons->AvK,mem_cons_of_mem->AvZ,mem_cons_self->AvX,mem_filter->AxW,mem_map->AwV,mem_of_mem_drop->AwE,mem_replicate->Ayt,mem_singleton->Awk,nil_append->AvV,pairwise_cons->Awd,pairwise_singleton->Ayg,replicate->AxL,set_eq_take_append_cons_drop->Axm,tail_drop->AxB,take->AvG,take_length->AwQ,take_succ_eq_append_getElem->AwG
open Nat renaming add_mul->Aws,add_sub_cancel->Ax2,add_zero->Awr,ble->AvL,ble_eq_true_of_le->Awz,le_refl->η,min_eq_left->AwM,mod_eq_of_lt->Axe,mod_lt->Axg,mod_one->AyW,mul_add->Ax0,mul_assoc->Axd,mul_comm->Ayv,mul_le_mul_left->AxZ,mul_one->AxO,pow_le_pow_right->Aw0,pow_pos->AyX,pow_succ->AwS,strongRecOn->AwN,zero_add->AvW
open Option renaming some->V
namespace Go.Proofs.YtlmhajfbpplpoaaGreat
open ABlk renaming mk->Ψ
section
open Go.RowKit
def K9:Sy:=⟨[Ag [120],Ag [121]],[],0,[],Θ,[],Θ,[],[⟨Ag [112],[Ag [97],Ag [98]],[]⟩],[]⟩
def VZ:Tr:=.mk 2 [⟨Θ,Ag [],Ag [120]⟩] [⟨Θ,Ag [48],Ag []⟩] 4 (Ag []) (Ag []) []
def Yl:Tr:=.mk 6 [] [] 0 (Ag [112]) (Ag [98]) []
def q4:Tr:=NK 9 [NK 7 [VZ,NK 10 [Yl]]]
def VY:Tr:=NK 99 []
def s41:List UInt8:=[71,32,40,120,32,62,32,48,32,45,62,32,70,32,64,112,46,98,41]
def s42:List UInt8:=[120,32,61,32,49,32,85]
def s43:List UInt8:=[64,112,46,99]
set_option maxRecDepth 1000000
def W4:Option (AV × List BO)->Bool
 |some (.tup [.agg [.v (.int .i64 9),.v (.int .i64 _),.ls _],.ls [_,[.v (.bool U),.v (.int .i64 _),.v (.int .i64 1),.v (.int .i64 _),.ls _,.v (.bool _),.ls _,.v (.bool _),.ls _]],.v (.bool U)],[])=>U
 |_=>Θ
def Adm:Option (AV × List BO)->Bool
 |some (.tup [.agg [.v (.int .i64 _),.v (.int .i64 _),.ls _],.ls _,.v (.bool Θ)],[])=>U
 |_=>Θ
end
open Go.RowKit
theorem AaO{o:Option (AV × List BO)}(h:W4 o=U):∃ a b c d e f g i j k,o=V (.tup [.agg [iv 9,iv a,.ls b],.ls [c,[bv U,iv d,iv 1,iv e,.ls f,bv g,.ls i,bv j,.ls k]],bv U],[]):=by
 unfold W4 at h;split at h
 .exact⟨_,_,_,_,_,_,_,_,_,_,rfl⟩
 .cases h
theorem Adn{o:Option (AV × List BO)}(h:Adm o=U):∃ a b c d,o=V (.tup [.agg [iv a,iv b,.ls c],.ls d,bv Θ],[]):=by
 unfold Adm at h;split at h
 .exact⟨_,_,_,_,rfl⟩
 .cases h
def Aet(y:Sy):Bool:=decide (y.vars.length<=50)&&decide (y.ps.length<=12)&&y.ps.all λp=>decide (p.locs.length<=50)
structure FewY (y:Sy):Prop where
 v:y.vars.length<=50
 p:y.ps.length<=12
 q:∀ p∈y.ps,p.locs.length<=50
theorem UD{y:Sy}:Aet y=U ↔ FewY y:=by
 unfold Aet;simp only[AvF,decide_eq_true_eq,List.all_eq_true];exact⟨λ⟨⟨a,b⟩,c⟩=>⟨a,b,c⟩,λ⟨a,b,c⟩=>⟨⟨a,b⟩,c⟩⟩
structure Al4F (D:Orc):Prop where
 res:∃ a b c d e f g i j k,D.ask (.fn 34) [.agg (BH q4),.agg (Gj K9)] []=V (.tup [.agg [iv 9,iv a,.ls b],.ls [c,[bv U,iv d,iv 1,iv e,.ls f,bv g,.ls i,bv j,.ls k]],bv U],[])
 no:∃ a b c d,D.ask (.fn 34) [.agg (BH VY),.agg (Gj K9)] []=V (.tup [.agg [iv a,iv b,.ls c],.ls d,bv Θ],[])
 text:D.ask (.fn 38) [.agg (BH q4)] []=V (sv (Ag s41),[])
section
variable {D:Orc}
theorem Aps(Kv:Knows Ak La D):D.ask (.fn 42) [] []=V (.agg (Gj K9),[]):=
 Kv.fn' AqD _ rfl ((e42 ..).trans rfl)
theorem An3(Kv:Knows Ak La D)(ps:List Pr)(hp:ps.length<4611686018427387904):∀(k i:Nat),ps.length-i=k->D.ask (.lp 31 0) [.ls (ps.map O3),iv (ps.length:Int),iv (i:Int)] []
  = V (if(ps.drop i).all (λp=>decide (p.locs.length<=50)) then .tup [iv 0] else .tup [bv U,bv Θ],[]):=by
 intro k
 induction k with
 |zero=>
  intro i hi;refine Ax Kv AeM (Akx ..) ?_;rw[show ps.drop i=[] from ο (by omega)];refine Am ?_;rfl
 |succ k ih=>
  intro i hi;have hlt:i<ps.length:=by omega
  have ih':=ih (i+1) (by omega);rw[show ps.drop i=ps[i]::ps.drop (i+1) from ω hlt,Axc];refine Ax Kv AeM (Akx ..) ?_;refine Ao ?_;rw[AA,Az (Ω hlt)];simp only[O3,Ae,Aj]
  by_cases h:ps[i].locs.length<=50
  .refine Am ?_
   rw[Ba h,Bn (by omega),AvR];refine Aa ih' ?_
   cases (ps.drop (i+1)).all (λp=>decide (p.locs.length<=50))<;>rfl
  .refine Ao ?_
   rw[Bu h,Awb];rfl
theorem An4(Kv:Knows Ak La D)(y:Sy):D.ask (.fn 31) [.agg (Gj y)] []=V (bv (Aet y),[]):=by
 refine Aq Kv AeM (e31 ..) ?_;rw[Aj,Aj];unfold Aet
 by_cases h1:y.vars.length<=50
 .refine Am ?_
  rw[Ba h1,AvR]
  by_cases h2:y.ps.length<=12
  .refine Am ?_
   rw[Ba h2,AvR];refine Aa (An3 Kv y.ps (by omega) _ 0 rfl) ?_;rw[κ]
   cases y.ps.all (λp=>decide (p.locs.length<=50))<;>rfl
  .refine Ao ?_
   rw[Bu h2];rfl
 .refine Ao ?_
  rw[Bu h1];rfl
theorem Ag4:FewY K9:=UD.1 rfl
theorem Aga:WzT q4:=by
 have z:(Ag []).size<=9223372036854775807:=by decide
 have at':WzT Yl:=.mk (by simp) (by simp) (by simp) (by simp) (by simp) (by simp);have cm:WzT VZ:=.mk (by simp) (by simp) (by simp) (by simp;exact⟨by decide,by decide⟩) (by simp;exact⟨by decide,by decide⟩) (by simp);have f:WzT (NK 10 [Yl]):=.mk (by simp) (by simp) (by simp) (by simp) (by simp) (by simpa using at');have im:WzT (NK 7 [VZ,NK 10 [Yl]]):=.mk (by simp) (by simp) (by simp) (by simp) (by simp) (by intro x hx;rcases AvK.1 hx with rfl|hx;exact cm;rcases AvK.1 hx with rfl|hx;exact f;cases hx);exact .mk (by simp) (by simp) (by simp) (by simp) (by simp) (by simpa using im)
theorem Af9:WzP q4:=by
 have at':WzP Yl:=.mk (by decide) (by decide) (by simp);have cm:WzP VZ:=.mk (by decide) (by decide) (by simp);have f:WzP (NK 10 [Yl]):=.mk (by decide) (by decide) (by simpa using at');have im:WzP (NK 7 [VZ,NK 10 [Yl]]):=.mk (by decide) (by decide) (by intro x hx;rcases AvK.1 hx with rfl|hx;exact cm;rcases AvK.1 hx with rfl|hx;exact f;cases hx);exact .mk (by decide) (by decide) (by simpa using im)
set_option maxRecDepth 100000 in
theorem VX:AO q4 0=U:=by kernel_rfl
theorem Ao2(a:Ab)(r:Rw)(k:Ab->KR):A4 (a::r) 0 k=k a:=rfl
theorem AfT(a b:Ab)(r:Rw)(k:Ab->KR):A4 (a::b::r) 1 k=k b:=rfl
end
def As:Al->Nat
 |[]=>0
 |x::r=>x+4294967296*As r
def Limbs(l:Al):Prop:=∀ x∈l,x<4294967296
def AY(n:Nat):Al:=if n=0 then [] else(n % 4294967296)::AY (n / 4294967296)
termination_by n
decreasing_by omega
theorem FU:AY 0=[]:=by rw[AY];rfl
theorem I8{n:Nat}(h:n≠0):AY n=(n % 4294967296)::AY (n / 4294967296):=by rw[AY,Ad h]
theorem AF:∀(n:Nat),Limbs (AY n):=by
 intro n
 induction n using AwN with
 |ind n ih=>
  by_cases h:n=0
  .subst h;rw[FU];intro x hx;cases hx
  .rw[I8 h]
   intro x hx;rcases AvK.1 hx with rfl|hx
   .exact Axg _ (by omega)
   .exact ih (n / 4294967296) (by omega) x hx
theorem A1:∀(n:Nat),As (AY n)=n:=by
 intro n
 induction n using AwN with
 |ind n ih=>
  by_cases h:n=0
  .subst h;rw[FU];rfl
  .grind [As,I8]
def Dz:Al->Nat
 |[]=>0
 |x::r=>if Dz r=0/\x=0 then 0 else Dz r+1
theorem Er:∀ l:Al,Dz l<=l.length
 |[]=>η _
 |x::r=>by
  have:=Er r;unfold Dz;rw[ε];split<;>omega
theorem Limbs.cons{x:Nat}{r:Al}(h:Limbs (x::r)):x<4294967296/\Limbs r:=⟨h x (AvX ..),λy hy=>h y (AvZ _ hy)⟩
theorem Ch:Limbs []:=λ_ h=>by cases h
theorem B4{x:Nat}{r:Al}(h:x<4294967296)(h2:Limbs r):Limbs (x::r):=λy hy=>by
 rcases AvK.1 hy with rfl|hy
 .exact h
 .exact h2 y hy
theorem RE{a b:Al}(h:Limbs a)(h2:Limbs b):Limbs (a++b):=λx hx=>by
 rcases Awg.1 hx with hx|hx
 .exact h x hx
 .exact h2 x hx
theorem Limbs.take{l:Al}(h:Limbs l)(n:Nat):Limbs (l.take n):=λx hx=>h x (List.mem_of_mem_take hx)
theorem Limbs.drop{l:Al}(h:Limbs l)(n:Nat):Limbs (l.drop n):=λx hx=>h x (AwE hx)
theorem Limbs.get{l:Al}(h:Limbs l){i:Nat}(hi:i<l.length):l[i]<4294967296:=h _ (List.getElem_mem hi)
theorem Ahf:∀{l:Al},Dz l=0->As l=0
 |[],_=>rfl
 |x::r,h=>by
  unfold Dz at h;split at h
  .rename_i h2
   rw[As,Ahf h2.1,h2.2]
  .omega
theorem Ahl:∀{l:Al},As l=0->Dz l=0
 |[],_=>rfl
 |x::r,h=>by
  rw[As]at h;unfold Dz;rw[Ac ⟨Ahl (by omega),by omega⟩]
theorem Mp:∀{l:Al},Limbs l->l.take (Dz l)=AY (As l)
 |[],_=>by rw[As,FU];rfl
 |x::r,h=>by
  obtain⟨h1,h2⟩:=h.cons;have ih:=Mp h2;unfold Dz;split
  .first|grind [As,FU,Ahf] | grind [As,List.take_zero,FU,Ahf]
  .first|grind [As,I8,Ahl] | grind [As,List.take_succ_cons,I8,Ahl]
theorem Gc:∀(a b:Al),As (a++b)=As a+4294967296 ^ a.length*As b
 |[],b=>by simp[As]
 |x::r,b=>by
  rw[List.cons_append,As,Gc r b,As,ε,AwS,Ax0,←Axd,Ayv 4294967296 (4294967296 ^ r.length)];omega
theorem Dc:∀{l:Al},Limbs l->As l<4294967296 ^ l.length
 |[],_=>by simp[As]
 |x::r,h=>by
  obtain⟨h1,h2⟩:=h.cons;have:=Dc h2;rw[As,ε,AwS];omega
theorem I7(l:Al)(h:Limbs l):(AY (As l)).length=Dz l:=by
 (first|grind [Mp,Er] | grind [Av6,Mp,Er])
theorem BR{n k:Nat}(h:n<4294967296 ^ k):(AY n).length<=k:=by
 induction k generalizing n with
 |zero=>
  have:n=0:=by simpa using h
  subst this;rw[FU];exact η _
 |succ k ih=>
  by_cases h0:n=0
  .grind
  .first|grind [I8] | grind [ε,Nat.div_lt_iff_lt_mul,AwS,I8]
theorem Vs{n k:Nat}(h:4294967296 ^ k<=n):k<(AY n).length:=by
 by_cases h2:k<(AY n).length
 .exact h2
 .have h3:=Dc (AF n)
  rw[A1]at h3;have h4:4294967296 ^ (AY n).length<=4294967296 ^ k:=Aw0 (by omega) (by omega);omega
theorem So:∀{l:Al},0<Dz l->∃ x,l[Dz l-1]? = V x/\x≠0
 |[],h=>by simp[Dz]at h
 |y::r,h=>by
  by_cases h1:Dz r=0
  .have h2:y≠0:=by
    grind [Dz]
   refine⟨y,?_,h2⟩;unfold Dz;rw[Ad (λe=>h2 e.2),h1];rfl
  .obtain⟨x,h3,h4⟩:=So (l:=r) (by omega)
   refine⟨x,?_,h4⟩;unfold Dz;rw[Ad (λe=>h1 e.1)];have:Dz r+1-1=(Dz r-1)+1:=by omega
   rw[this,Awa,h3]
theorem T7:∀{l:Al} {i x:Nat},l[i]? = V x->x≠0->i<Dz l
 |[],i,x,h,_=>by simp at h
 |y::r,0,x,h,h2=>by
  grind [Dz]
 |y::r,i+1,x,h,h2=>by
  rw[Awa]at h;have:=T7 h h2;unfold Dz;rw[Ad (λe=>by omega)];omega
theorem Sn{l:Al}{n:Nat}(h:Dz l<=n+1)(h2:l[n]? = V 0):Dz l<=n:=by
 (first|grind [So] | grind [Ax2,So])
def eL(n:Nat):Ab:=[.v (.int .u32 (n:Int))]
def eN(l:Al):AV:=.ls (l.map eL)
theorem A9(x:Nat):(eL x).length=1:=rfl
def Mx:Nat->Al->Al->Al
 |c,[],_=>[c]
 |c,x::a,b=>((x+b.headD 0+c) % 4294967296)::Mx ((x+b.headD 0+c) / 4294967296) a b.tail
theorem FS{b:Al}(h:Limbs b):b.headD 0<4294967296:=by
 cases b with
 |nil=>simp
 |cons y b=>exact h.cons.1
theorem Limbs.tail{b:Al}(h:Limbs b):Limbs b.tail:=by
 cases b with
 |nil=>exact h
 |cons y b=>exact h.cons.2
theorem JN(b:Al):As b=b.headD 0+4294967296*As b.tail:=by
 cases b<;>rfl
theorem Nm:∀(a b:Al) (c:Nat),b.length<=a.length->As (Mx c a b)=c+As a+As b
 |[],b,c,h=>by
  obtain rfl:b=[]:=Awn.1 (by simpa using h);simp[Mx,As]
 |x::a,b,c,h=>by
  have ih:=Nm a b.tail ((x+b.headD 0+c) / 4294967296) (by simp at h ⊢;omega);rw[Mx,As,ih,As,JN b];omega
theorem Kn:∀(a b:Al) (c:Nat),Limbs a->Limbs b->c<=1->Limbs (Mx c a b)
 |[],b,c,_,_,hc=>B4 (by omega) Ch
 |x::a,b,c,ha,hb,hc=>by
  have h1:=FS hb;have h2:=ha.cons;exact B4 (Axg _ (by omega)) (Kn a b.tail _ h2.2 hb.tail (by omega))
def N4:Nat->Nat->Al->Al->Al
 |0,_,_,_=>[]
 |k+1,c,a,b=>((a.headD 0+b.headD 0+c) % 4294967296)::N4 k ((a.headD 0+b.headD 0+c) / 4294967296) a.tail b.tail
theorem Sq:∀(k c:Nat) (a b:Al),As (N4 k c a b)=(c+As a+As b) % 4294967296 ^ k
 |0,c,a,b=>by simp[N4,As,AyW]
 |k+1,c,a,b=>by
  have ih:=Sq k ((a.headD 0+b.headD 0+c) / 4294967296) a.tail b.tail;rw[N4,As,ih,JN a,JN b,AwS,Ayv (4294967296 ^ k) 4294967296,Nat.mod_mul];have e1:(c+(a.headD 0+4294967296*As a.tail)+(b.headD 0+4294967296*As b.tail)) % 4294967296=(a.headD 0+b.headD 0+c) % 4294967296:=by omega
  have e2:(c+(a.headD 0+4294967296*As a.tail)+(b.headD 0+4294967296*As b.tail)) / 4294967296=(a.headD 0+b.headD 0+c) / 4294967296+As a.tail+As b.tail:=by omega
  rw[e1,e2]
theorem OK:∀(k c:Nat) (a b:Al),Limbs (N4 k c a b)
 |0,_,_,_=>Ch
 |k+1,c,a,b=>B4 (Axg _ (by omega)) (OK k _ _ _)
def Im:Nat->Al->Al->Al
 |_,[],_=>[]
 |c,x::a,b=>(if x<b.headD 0+c then x+4294967296-(b.headD 0+c) else x-(b.headD 0+c))::Im (if x<b.headD 0+c then 1 else 0) a b.tail
def YB:Nat->Al->Al->Nat
 |c,[],_=>c
 |c,x::a,b=>YB (if x<b.headD 0+c then 1 else 0) a b.tail
theorem Aak:∀(a b:Al) (c:Nat),c<=1->YB c a b<=1
 |[],_,_,h=>h
 |x::a,b,c,h=>Aak a b.tail _ (by split<;>omega)
theorem Ss:∀(a b:Al) (c:Nat),Limbs a->Limbs b->c<=1->b.length<=a.length->As (Im c a b)+As b+c=As a+4294967296 ^ a.length*YB c a b
 |[],b,c,_,_,_,h=>by
  obtain rfl:b=[]:=Awn.1 (by simpa using h);simp[Im,YB,As]
 |x::a,b,c,ha,hb,hc,h=>by
  have h1:=FS hb;have h2:=ha.cons;rw[Im,YB,As,As,JN b,ε,AwS];have ih:=Ss a b.tail (if x<b.headD 0+c then 1 else 0) h2.2 hb.tail (by split<;>omega) (by simp at h ⊢;omega);rw[Ayv (4294967296 ^ a.length) 4294967296,Axd];revert ih;generalize 4294967296 ^ a.length*YB (if x<b.headD 0+c then 1 else 0) a b.tail=z;generalize As (Im (if x<b.headD 0+c then 1 else 0) a b.tail)=s;intro ih;split at ih
  .grind
  .grind
theorem In:∀(a b:Al) (c:Nat),Limbs a->Limbs b->c<=1->Limbs (Im c a b)
 |[],_,_,_,_,_=>Ch
 |x::a,b,c,ha,hb,hc=>by
  have h1:=FS hb;have h2:=ha.cons;refine B4 ?_ (In a b.tail _ h2.2 hb.tail (by split<;>omega));split<;>omega
theorem Mm:∀(a b:Al) (c:Nat),(Im c a b).length=a.length
 |[],_,_=>rfl
 |x::a,b,c=>by rw[Im,ε,Mm a,ε]
theorem WB{a b:Al}(ha:Limbs a)(hb:Limbs b)(h:b.length<=a.length)(hv:As b<=As a):As (Im 0 a b)=As a-As b:=by
 have h1:=Ss a b 0 ha hb (by omega) h;have h2:=Dc (In a b 0 ha hb (by omega));rw[Mm]at h2;have h3:=Aak a b 0 (by omega);have h4:=Dc ha;rcases Nat.lt_or_ge (YB 0 a b) 1 with h5|h5
 .grind
 .grind
def PG:Nat->Nat->Al->Al->Al
 |_,c,[],o=>c::o.tail
 |x,c,y::b,o=>((x*y+o.headD 0+c) % 4294967296)::PG x ((x*y+o.headD 0+c) / 4294967296) b o.tail
theorem Sr:∀(x:Nat) (b o:Al) (c:Nat),(o.drop b.length).headD 0=0->As (PG x c b o)=x*As b+As o+c
 |x,[],o,c,h=>by
  grind [PG,As,JN]
 |x,y::b,o,c,h=>by
  have h2:(o.tail.drop b.length).headD 0=0:=by
   simp_all
  have ih:=Sr x b o.tail ((x*y+o.headD 0+c) / 4294967296) h2;have e:x*(y+4294967296*As b)=x*y+4294967296*(x*As b):=by
   grind
  rw[PG,As,ih,As,JN o,e];omega
theorem PI{x y:Nat}(hx:x<4294967296)(hy:y<4294967296):x*y<=18446744065119617025:=by
 have:=Nat.mul_le_mul (show x<=4294967295 by omega) (show y<=4294967295 by omega);omega
theorem PH:∀(x:Nat) (b o:Al) (c:Nat),x<4294967296->Limbs b->Limbs o->c<4294967296->Limbs (PG x c b o)
 |x,[],o,c,_,_,ho,hc=>B4 hc ho.tail
 |x,y::b,o,c,hx,hb,ho,hc=>by
  have h1:=FS ho;have h2:=hb.cons;have h3:=PI hx h2.1;exact B4 (Axg _ (by omega)) (PH x b o.tail _ hx h2.2 ho.tail (by omega))
def Eo:Nat->Nat->Al->Al
 |_,c,[]=>[c]
 |m,c,x::a=>((x*m+c) % 4294967296)::Eo m ((x*m+c) / 4294967296) a
theorem Js:∀(m:Nat) (a:Al) (c:Nat),As (Eo m c a)=As a*m+c
 |m,[],c=>by simp[Eo,As]
 |m,x::a,c=>by
  rw[Eo,As,Js m a,As,Aws,Axd];omega
theorem Il:∀(m:Nat) (a:Al) (c:Nat),m<4294967296->Limbs a->c<4294967296->Limbs (Eo m c a)
 |m,[],c,_,_,hc=>B4 hc Ch
 |m,x::a,c,hm,ha,hc=>by
  have h2:=ha.cons;have h3:=PI h2.1 hm;exact B4 (Axg _ (by omega)) (Il m a _ hm h2.2 (by omega))
def DX(a b:Nat):Int:=if a<b then -1 else if b<a then 1 else 0
theorem Ut{a b:Al}(ha:Limbs a)(hb:Limbs b)(h:a.length=b.length)(x y:Nat):DX (As (a++[x])) (As (b++[y]))=if x<y then -1 else if y<x then 1 else DX (As a) (As b):=by
 rw[Gc,Gc,←h];have h1:=Dc ha;have h2:=Dc hb;rw[←h]at h2;simp only[As,Nat.mul_zero,Awr];revert h1 h2;generalize 4294967296 ^ a.length=k;generalize As a=p;generalize As b=q;intro h1 h2
 by_cases h3:x<y
 .rw[Ac h3]
  have:k*(x+1)<=k*y:=AxZ _ h3;rw[Ax0]at this;unfold DX;rw[Ac (by omega)]
 .rw[Ad h3]
  by_cases h4:y<x
  .rw[Ac h4]
   have:k*(y+1)<=k*x:=AxZ _ h4;rw[Ax0]at this;unfold DX;rw[Ad (by omega),Ac (by omega)]
  .rw[Ad h4]
   obtain rfl:x=y:=by omega
   unfold DX
   by_cases h5:p<q
   .omega
   .omega
structure Zi where
 neg:Bool
 abs:Al
def Ez(neg:Bool)(n:Nat):Int:=if neg then -(n:Int) else n
def zv(z:Zi):Int:=Ez z.neg (As z.abs)
def A3(n:Int):Zi:=⟨decide (n<0),AY n.natAbs⟩
def eZ(z:Zi):Ab:=[bv z.neg,eN z.abs]
theorem AjQ(n:Int):Ez (decide (n<0)) n.natAbs=n:=by
 unfold Ez
 by_cases h:n<0
 .rw[Ba h,Ac rfl];omega
 .rw[Bu h,Ad (by simp)];omega
theorem BU(n:Int):zv (A3 n)=n:=by
 unfold zv A3;rw[A1];exact AjQ n
theorem Aaw(neg:Bool)(v:Nat):A3 (Ez neg v)=⟨neg&&decide (0<v),AY v⟩:=by
 unfold A3 Ez
 cases neg with
 |false=>
  rw[Ad (by simp),Awb,Bu (by omega)];rfl
 |true=>
  rw[Ac rfl,AvR,Axo,Int.natAbs_natCast]
  congr 1
  by_cases h:0<v
  .rw[Ba h,Ba (by omega)]
  .rw[Bu h,Bu (by omega)]
theorem QE:A3 0=⟨Θ,[]⟩:=by
 unfold A3;rw[show (0:Int).natAbs=0 from rfl,FU];rfl
structure Lz (k:Nat) (z:Zi):Prop where
 lim:Limbs z.abs
 len:z.abs.length<=k
theorem Lz.mono{k m:Nat}{z:Zi}(h:Lz k z)(hm:k<=m):Lz m z:=⟨h.lim,by have:=h.len;omega⟩
def InB(k:Nat)(n:Int):Prop:=n.natAbs<4294967296 ^ k
theorem InB.lz{k:Nat}{n:Int}(h:InB k n):Lz k (A3 n):=⟨AF _,BR h⟩
theorem Lz.inb{k:Nat}{z:Zi}(h:Lz k z):InB k (zv z):=by
 unfold InB zv;have h1:=Dc h.lim;have h2:4294967296 ^ z.abs.length<=4294967296 ^ k:=Aw0 (by omega) h.len;have h3:(Ez z.neg (As z.abs)).natAbs=As z.abs:=by
  unfold Ez;split
  .rw[Axo];rfl
  .rfl
 omega
theorem InB.mono{k m:Nat}{n:Int}(h:InB k n)(hm:k<=m):InB m n:=by
 unfold InB at *;have h2:4294967296 ^ k<=4294967296 ^ m:=Aw0 (by omega) hm;omega
theorem InB.add{k:Nat}{a b:Int}(ha:InB k a)(hb:InB k b):InB (k+1) (a+b):=by
 unfold InB at *;have:=Int.natAbs_add_le a b;rw[AwS];omega
theorem InB.neg{k:Nat}{a:Int}(ha:InB k a):InB k (-a):=by
 unfold InB at *;rw[Axo];exact ha
theorem InB.mul{k m:Nat}{a b:Int}(ha:InB k a)(hb:InB m b):InB (k+m) (a*b):=by
 unfold InB at *;rw[AyN,Nat.pow_add];have h1:a.natAbs*b.natAbs<=a.natAbs*4294967296 ^ m:=AxZ _ (Nat.le_of_lt hb);have h2:a.natAbs*4294967296 ^ m<4294967296 ^ k*4294967296 ^ m:=Nat.mul_lt_mul_of_pos_right ha (AyX (by omega));omega
theorem InB.zero(k:Nat):InB k 0:=by
 unfold InB;exact AyX (by omega)
theorem InB.one{k:Nat}(h:1<=k):InB k 1:=by
 have:InB 1 1:=by unfold InB;decide
 exact this.mono h
def Gi(a b:Int):Int:=if a<b then -1 else if b<a then 1 else 0
def Ds(n:Int):Int:=if n<0 then -1 else if 0<n then 1 else 0
theorem Ahw(z:Zi):zv z<0 ↔ z.neg=U/\0<As z.abs:=by
 obtain⟨n,l⟩:=z
 cases n with
 |true=>
  show (-(As l:Int)<0) ↔ (U=U/\0<As l)
  exact⟨λh=>⟨rfl,by omega⟩,λh=>by have:=h.2;omega⟩
 |false=>
  show ((As l:Int)<0) ↔ (Θ=U/\0<As l)
  exact⟨λh=>by omega,λh=>by cases h.1⟩
theorem Aax(z:Zi):zv z=0 ↔ As z.abs=0:=by
 unfold zv Ez;split<;>omega
theorem Fq{n:Nat}:0<(AY n).length ↔ 0<n:=by
 constructor
 .intro h
  by_cases h0:n=0
  .subst h0;rw[FU]at h;simp at h
  .omega
 .intro h
  rw[I8 (by omega)];simp
def Bt(v:Int):List (Int × Int)->Int
 |[]=>0
 |p::r=>(if p.1=v then p.2 else 0)+Bt v r
theorem FP{v:Int}:∀{l:List (Int × Int)},(∀ p∈l,p.1≠v)->Bt v l=0
 |[],_=>rfl
 |p::r,h=>by
  rw[Bt,Ad (h p (AvX ..)),FP λq hq=>h q (AvZ _ hq)];rfl
theorem Xd{v:Int}{a b:List (Int × Int)}(h:a.Perm b):Bt v a=Bt v b:=by
 induction h with
 |nil=>rfl
 |cons x _ ih=>rw[Bt,Bt,ih]
 |swap x y l=>rw[Bt,Bt,Bt,Bt];omega
 |trans _ _ ih1 ih2=>rw[ih1,ih2]
structure Pln (l:List (Int × Int)):Prop where
 asc:l.Pairwise λa b=>a.1<b.1
 pos:∀ p∈l,0<=p.1
 nz:∀ p∈l,p.2≠0
theorem Z4:Pln []:=⟨.nil,by simp,by simp⟩
theorem Pln.tail{p:Int × Int}{r:List (Int × Int)}(h:Pln (p::r)):Pln r:=⟨(Awd.1 h.asc).2,λq hq=>h.pos q (AvZ _ hq),λq hq=>h.nz q (AvZ _ hq)⟩
theorem Pln.head{p:Int × Int}{r:List (Int × Int)}(h:Pln (p::r)):Bt p.1 (p::r)=p.2:=by
 rw[Bt,Ac rfl,FP λq hq=>by have:=(Awd.1 h.asc).1 q hq;omega];omega
theorem Pln.below{p:Int × Int}{r:List (Int × Int)}(h:Pln (p::r)){v:Int}(hv:v<p.1):Bt v (p::r)=0:=by
 refine FP λq hq=>?_
 rcases AvK.1 hq with rfl|hq
 .omega
 .have:=(Awd.1 h.asc).1 q hq
  omega
theorem Pln.ext:∀{a b:List (Int × Int)},Pln a->Pln b->(∀ v,Bt v a=Bt v b)->a=b
 |[],[],_,_,_=>rfl
 |[],q::s,_,hb,h=>by
  have h1:=hb.head;rw[←h q.1]at h1;exact absurd h1.symm (hb.nz q (AvX ..))
 |p::r,[],ha,_,h=>by
  have h1:=ha.head;rw[h p.1]at h1;exact absurd h1.symm (ha.nz p (AvX ..))
 |p::r,q::s,ha,hb,h=>by
  have h1:=ha.head;have h2:=hb.head;have n1:=ha.nz p (AvX ..);have n2:=hb.nz q (AvX ..);have e:p.1=q.1:=by
   rcases Int.lt_trichotomy p.1 q.1 with h3|h3|h3
   .rw[h p.1,hb.below h3]at h1
    exact absurd h1.symm n1
   .exact h3
   .rw[←h q.1,ha.below h3]at h2
    exact absurd h2.symm n2
  have e2:p.2=q.2:=by rw[←h1,←h2,h p.1,e]
  have ep:p=q:=Prod.ext e e2;rw[ep,Pln.ext ha.tail hb.tail λv=>by
   have:=h v;rw[Bt,Bt,ep]at this;omega]
def Ly(v c:Int):List (Int × Int)->List (Int × Int)
 |[]=>if c=0 then [] else [(v,c)]
 |p::r=>if v<p.1 then(if c=0 then p::r else(v,c)::p::r) else if p.1<v then p::Ly v c r else if p.2+c=0 then r else(v,p.2+c)::r
theorem MW(v c u:Int):∀ l:List (Int × Int),Bt u (Ly v c l)=(if v=u then c else 0)+Bt u l
 |[]=>by
  grind [Bt,Ly]
 |p::r=>by
  have ih:=MW v c u r;unfold Ly;split
  .split
   .rename_i h;rw[h];simp
   .rfl
  .grind [Bt]
theorem Vm{v c:Int}:∀{l:List (Int × Int)} {q:Int × Int},q∈Ly v c l->q.1=v\/q∈l
 |[],q,h=>by
  grind [Ly]
 |p::r,q,h=>by
  unfold Ly at h;split at h
  .grind
  .split at h
   .rcases AvK.1 h with h|h
    .grind
    .rcases Vm h with h|h
     .exact .inl h
     .grind
   .grind
theorem Vn{v c:Int}(hv:0<=v):∀{l:List (Int × Int)},Pln l->Pln (Ly v c l)
 |[],_=>by
  unfold Ly;split
  .exact Z4
  .rename_i h
   exact⟨Ayg _ _,by simpa using hv,by simpa using h⟩
 |p::r,h=>by
  have ih:=Vn (c:=c) hv h.tail;have hp:=Awd.1 h.asc;unfold Ly;split
  .rename_i h1
   split
   .exact h
   .rename_i h2
    refine⟨Awd.2 ⟨λq hq=>?_,h.asc⟩,λq hq=>?_,λq hq=>?_⟩
    .grind
    .grind
    .rcases AvK.1 hq with rfl|hq
     .exact h2
     .exact h.nz q hq
  .split
   .rename_i h1 h2
    refine⟨Awd.2 ⟨λq hq=>?_,ih.asc⟩,λq hq=>?_,λq hq=>?_⟩
    .grind [Vm]
    .rcases AvK.1 hq with rfl|hq
     .exact h.pos _ (AvX ..)
     .exact ih.pos q hq
    .rcases AvK.1 hq with rfl|hq
     .exact h.nz _ (AvX ..)
     .exact ih.nz q hq
   .rename_i h1 h2
    split
    .exact h.tail
    .rename_i h3
     refine⟨Awd.2 ⟨λq hq=>?_,hp.2⟩,λq hq=>?_,λq hq=>?_⟩
     .grind
     .grind
     .rcases AvK.1 hq with rfl|hq
      .exact h3
      .exact h.tail.nz q hq
def E7:List (Int × Int)->List (Int × Int)
 |[]=>[]
 |p::r=>if 0<=p.1 then Ly p.1 p.2 (E7 r) else E7 r
theorem FF:∀ l:List (Int × Int),Pln (E7 l)
 |[]=>Z4
 |p::r=>by
  unfold E7;split
  .rename_i h;exact Vn h (FF r)
  .exact FF r
theorem KU(v:Int):∀ l:List (Int × Int),Bt v (E7 l)=if 0<=v then Bt v l else 0
 |[]=>by simp[E7,Bt]
 |p::r=>by
  have ih:=KU v r;unfold E7
  by_cases h:0<=p.1
  .by_cases hv:0<=v
   .simp_all [Bt,Ac,MW]
   .rw[Ac h,MW,ih,Ad hv,Ad hv,Ad (by omega)]
    rfl
  .grind [Bt]
theorem PT{l r:List (Int × Int)}(h:Pln r)(hc:∀ v,0<=v->Bt v r=Bt v l):r=E7 l:=by
 refine Pln.ext h (FF l) λv=>?_
 rw[KU]
 by_cases hv:0<=v
 .rw[Ac hv,hc v hv]
 .rw[Ad hv]
  refine FP λp hp e=>?_
  have:=h.pos p hp;omega
theorem Yi{l:List (Int × Int)}(h:Pln l):E7 l=l:=(PT h λ_ _=>rfl).symm
theorem R2:∀ l:List (Int × Int),(E7 l).length<=l.length
 |[]=>η _
 |p::r=>by
  have ih:=R2 r;have ins:∀ l:List (Int × Int),(Ly p.1 p.2 l).length<=l.length+1:=λl=>by
   induction l with
   |nil=>unfold Ly;split<;>simp
   |cons q s ih=>
    unfold Ly;split
    .split<;>simp
    .grind
  unfold E7;split
  .grind
  .grind
section
variable {α:Type} (key:α->Int)
def kf(l:List α)(p:Nat):Int:=match l[p]? with
 |some x=>key x
 |none=>0
theorem GP{l:List α}{p:Nat}(h:p<l.length):kf key l p=key l[p]:=by
 grind [kf]
def DL(l:List α)(i j:Nat):List α:=match l[i]?,l[j]? with
 |some x,V y=>(l.set i y).set j x
 |_,_=>l
theorem Ep{l:List α}{i j:Nat}(hi:i<l.length)(hj:j<l.length):DL l i j=(l.set i l[j]).set j l[i]:=by
 grind [DL]
theorem JM(l:List α)(i j:Nat):(DL l i j).length=l.length:=by
 unfold DL;split<;>simp
theorem Zk{l:List α}{i j:Nat}(hi:i<l.length)(hj:j<l.length)(p:Nat):kf key (DL l i j) p=if p=j then kf key l i else if p=i then kf key l j else kf key l p:=by
 rw[Ep hi hj];unfold kf
 by_cases h1:p=j
 .grind
 .grind
theorem Io(l:List α)(i j:Nat):(DL l i j).Perm l:=by
 by_cases hi:i<l.length
 .by_cases hj:j<l.length
  .rw[Ep hi hj]
   have:=Array.swap_perm (xs:=l.toArray) (i:=i) (j:=j) (by simpa using hi) (by simpa using hj);have h2:=this.toList;simpa[Array.swap]using h2
  .simp_all [DL]
 .simp_all [DL]
theorem Acn{l:List α}{i j p:Nat}(h1:p≠i)(h2:p≠j):(DL l i j)[p]? = l[p]?:=by
 unfold DL;split
 .grind
 .rfl
def Srt(l:List α)(a b:Nat):Prop:=∀ p q,a<=p->p<q->q<b->kf key l p<=kf key l q
def Aaz(l:List α)(a i j:Nat):Prop:=∀ p q,a<=p->p<q->q<=i->q≠j->kf key l p<=kf key l q
def Same0(l r:List α)(a b:Nat):Prop:=∀ p,(p<a\/b<=p)->r[p]? = l[p]?
theorem DH(l:List α)(a b:Nat):Same0 l l a b:=λ_ _=>rfl
theorem Same0.trans{l r s:List α}{a b:Nat}(h1:Same0 l r a b)(h2:Same0 r s a b):Same0 l s a b:=λp hp=>(h2 p hp).trans (h1 p hp)
theorem Same0.wide{l r:List α}{a b c d:Nat}(h1:Same0 l r a b)(hc:c<=a)(hd:b<=d):Same0 l r c d:=λp hp=>h1 p (by omega)
theorem Same0.kf{l r:List α}{a b p:Nat}(h:Same0 l r a b)(hp:p<a\/b<=p):kf key r p=kf key l p:=by
 unfold Go.Proofs.YtlmhajfbpplpoaaGreat.kf;rw[h p hp]
theorem Aco{l:List α}{i j a b:Nat}(h1:a<=i)(h2:i<b)(h3:a<=j)(h4:j<b):Same0 l (DL l i j) a b:=λp hp=>Acn (by omega) (by omega)
theorem Acl{l:List α}{a i j:Nat}(hi:i<l.length)(ha:a<j)(hj:j<=i)(h:Aaz key l a i j)(hlt:kf key l j<kf key l (j-1)):Aaz key (DL l j (j-1)) a i (j-1):=by
 intro p q h1 h2 h3 h4;rw[Zk key (by omega) (by omega),Zk key (by omega) (by omega)]
 by_cases q1:q=j
 .subst q1
  rw[Ad (show ¬ q=q-1 by omega),Ac rfl]
  by_cases p1:p=q-1
  .rw[Ac p1];omega
  .rw[Ad p1,Ad (by omega)]
   exact h p (q-1) h1 (by omega) (by omega) (by omega)
 .rw[Ad h4,Ad q1]
  by_cases p1:p=j-1
  .rw[Ac p1]
   exact h j q (by omega) (by omega) h3 q1
  .rw[Ad p1]
   by_cases p2:p=j
   .rw[Ac p2]
    exact h (j-1) q (by omega) (by omega) h3 q1
   .rw[Ad p2]
    exact h p q h1 h2 h3 q1
theorem Wl{l:List α}{a i j:Nat}(hj:j<=i)(h:Aaz key l a i j)(he:j=a\/kf key l (j-1)<=kf key l j):Srt key l a (i+1):=by
 intro p q h1 h2 h3
 by_cases hq:q=j
 .subst hq
  rcases he with he|he
  .omega
  .by_cases hp:p=q-1
   .rw[hp];exact he
   .have:=h p (q-1) h1 (by omega) (by omega) (by omega)
    omega
 .exact h p q h1 h2 (by omega) hq
theorem Yz{l:List α}{a i:Nat}(h:Srt key l a i):Aaz key l a i i:=λp q h1 h2 h3 h4=>h p q h1 h2 (by omega)
theorem TR{l:List α}(h:Srt key l 0 l.length):l.Pairwise λx y=>key x<=key y:=by
 rw[List.pairwise_iff_getElem];intro i j hi hj hij;have:=h i j (by omega) hij hj
 rwa [GP key hi,GP key hj]at this
theorem AjW(l:List α)(a:Nat):Srt key l a (a+1):=λp q h1 h2 h3=>by omega
theorem AjV(l:List α)(a:Nat):Srt key l a a:=λp q h1 h2 h3=>by omega
end
noncomputable def Qt:List (Nat × MFn):=[(207,AfH),(154,AfE),(153,AfD),(157,AfF),(152,AfC),(206,LI),(242,PC),(156,VB),(208,VC)]
theorem Jl{D:Orc}(K:Knows Ak Fc D):Knows Ak Qt D:=
 have h:∀ f mf,BX f Qt=V mf->BX f Fc=V mf:=λf mf h=>by
  have hm:=Fx h;unfold Qt at hm;rcases AvK.1 hm with e|hm
  .cases e
   show BX _ Fc=V _
   kernel_rfl
  rcases AvK.1 hm with e|hm
  .cases e
   show BX _ Fc=V _
   kernel_rfl
  rcases AvK.1 hm with e|hm
  .cases e
   show BX _ Fc=V _
   kernel_rfl
  rcases AvK.1 hm with e|hm
  .cases e
   show BX _ Fc=V _
   kernel_rfl
  rcases AvK.1 hm with e|hm
  .cases e
   show BX _ Fc=V _
   kernel_rfl
  rcases AvK.1 hm with e|hm
  .cases e
   show BX _ Fc=V _
   kernel_rfl
  rcases AvK.1 hm with e|hm
  .cases e
   show BX _ Fc=V _
   kernel_rfl
  rcases AvK.1 hm with e|hm
  .cases e
   show BX _ Fc=V _
   kernel_rfl
  rcases AvK.1 hm with e|hm
  .cases e
   show BX _ Fc=V _
   kernel_rfl
  cases hm
 ⟨λHn s f mf args bs r h1 h2=>K.fn Hn s f mf args bs r (h f mf h1) h2,λHn s f i mf q c args bs r h1 h2 h3=>K.lp Hn s f i mf q c args bs r (h f mf h1) h2 h3⟩
structure Pt where
 v:Int
 z:Zi
def eP(p:Pt):Ab:=[iv p.v,bv p.z.neg,eN p.z.abs]
theorem AE(p:Pt):(eP p).length=3:=rfl
section
variable {α:Type} {e:α->Ab} {w:Nat} (he:∀ x,(e x).length=w)
include he
theorem Aaf(l:List α):∀(i:Nat) (h:i<l.length),(Av e l).drop (i*w)=e l[i]++(Av e l).drop (i*w+w):=by
 induction l with
 |nil=>intro i h;cases h
 |cons x r ih=>
  intro i h;have hx:=he x
  cases i with
  |zero=>
   rw[Nat.zero_mul,κ,AvW]
   show e x++Av e r=e x++(e x++Av e r).drop w
   rw[←hx,List.drop_left]
  |succ i=>
   have:=ih i (by simpa using h);have e1:∀ n,(Av e (x::r)).drop (w+n)=(Av e r).drop n:=λn=>by
    show (e x++Av e r).drop (w+n)=_
    rw[←hx,Ayb];simp
   rw[show (i+1)*w=w+i*w by rw[Aws];omega,e1,this,show w+i*w+w=w+(i*w+w) by omega,e1];rfl
theorem BC(l:List α)(i:Nat)(h:i<l.length)(k:Ab->KR):Gf (Av e l) (0+i*w) w k=k (e l[i]):=by
 have hw:i*w+w<=l.length*w:=by
  rw[←Nat.succ_mul];exact Nat.mul_le_mul_right w h
 unfold Gf;have:AvL (0+i*w+w) (Av e l).length=U:=by rw[BK he];simp;omega
 rw[this]
 show k (((Av e l).drop (0+i*w)).take w)=_
 rw[AvW,Aaf he l i h,List.take_left' (he _)]
theorem Db(l:List α)(i:Nat)(h:i<l.length)(x:α):Bv (Av e l) (0+i*w) (e x)=Av e (l.set i x):=by
 unfold Bv;rw[he x,AvW];have e1:=Aaf he l i h;have e2:∀(l:List α) (i:Nat),i<=l.length->(Av e l).take (i*w)=Av e (l.take i):=λl=>by
  induction l with
  |nil=>intro i _;simp[Av]
  |cons y r ih=>
   intro i hi
   cases i with
   |zero=>simp[Av]
   |succ i=>
    rw[show (i+1)*w=w+i*w by rw[Aws];omega]
    show (e y++Av e r).take (w+i*w)=e y++Av e (r.take i)
    rw[←he y,List.take_append,List.take_of_length_le (by omega),show (e y).length+i*(e y).length-(e y).length=i*(e y).length by omega,he y,ih i (by simpa using hi)]
 have e3:∀(l:List α) (i:Nat),i<=l.length->(Av e l).drop (i*w)=Av e (l.drop i):=λl=>by
  induction l with
  |nil=>intro i _;simp[Av]
  |cons y r ih=>
   intro i hi
   cases i with
   |zero=>simp[Av]
   |succ i=>
    rw[show (i+1)*w=w+i*w by rw[Aws];omega]
    show (e y++Av e r).drop (w+i*w)=Av e (r.drop i)
    rw[←he y,Ayb,List.drop_of_length_le (by omega),show (e y).length+i*(e y).length-(e y).length=i*(e y).length by omega,he y,ih i (by simpa using hi),AvV]
 rw[e2 l i (by omega),show i*w+w=(i+1)*w by rw[Aws];omega,e3 l (i+1) (by omega),Axm,Ac h];simp[Av]
end
theorem Gq{a b:Int}:Gi a b<0 ↔ a<b:=by
 unfold Gi;split
 .omega
 .split<;>omega
theorem Wm{j:Nat}(h:j<4611686018427387904):Ai.sub .i64 ((j+1:Nat):Int) 1=(j:Int):=by
 rw[Hc (by omega) (by omega)];omega
theorem Be{a b:Nat}(h:a<b):Nat.blt a b=U:=by simpa using h
section
variable {D:Orc} (K:Knows Ak Qt D)
include K
theorem Vp(x:Int):D.ask (.fn 207) [iv x] []=V (bv Θ,[]):=by
 refine Aq K Aly (AtB ..) ?_;exact Aw rfl rfl
theorem YY(x y:Int):D.ask (.fn 154) [iv x,iv y] []=V (iv (Gi x y),[]):=by
 refine Aq K Alf (As6 ..) ?_;refine Aa (Vp K x) ?_;simp only[Ae];refine Aa (Vp K y) ?_;simp only[Ae];unfold Gi
 by_cases h:x<y
 .rw[Ac h]
  exact Ao rfl h
 .rw[Ad h]
  refine Am ?_ h
  by_cases h2:y<x
  .rw[Ac h2]
   exact Ao rfl h2
  .rw[Ad h2]
   exact Am rfl h2
theorem IR(p q:Pt):D.ask (.fn 153) [.agg (eP p),.agg (eP q)] []=V (iv (Gi p.v q.v),[]):=by
 refine Aq K Ale (As5 ..) ?_;refine Aa (YY K p.v q.v) ?_;rfl
def GM:AV:=.fn (.func 153) [] []
theorem Aoj(a i:Nat)(b:Int):∀(m j:Nat) (l:List Pt),j-a=m->a<=j->j<=i->i<l.length->l.length<=1000000000->Aaz Pt.v l a i j->
  ∃ r:List Pt,D.ask (.lp 242 1) [.sl 0 0 l.length 3,iv (a:Int),iv b,GM,iv (i:Int),iv (j:Int)] [Ψ (Av eP l) U U]
   = V (.tup [iv 2,.sl 0 0 l.length 3,iv (a:Int),iv b,GM,iv (i:Int)],[.set (Ψ (Av eP r) U U)])
   ∧ r.length=l.length/\r.Perm l/\Srt Pt.v r a (i+1)/\Same0 l r a (i+1):=by
 intro m
 induction m with
 |zero=>
  intro j l hm ha hj hi hl hs;obtain rfl:j=a:=by omega
  refine⟨l,?_,rfl,List.Perm.refl _,Wl Pt.v hj hs (.inl rfl),DH _ _ _⟩;refine Ax K IW (Xm ..) ?_;exact Am rfl
 |succ m ih=>
  intro j l hm ha hj hi hl hs;obtain⟨k,rfl⟩:∃ k,j=k+1:=⟨j-1,by omega⟩;have h1:k+1<l.length:=by omega
  have h0:k<l.length:=by omega
  have kf1:kf Pt.v l (k+1)=l[k+1].v:=GP Pt.v h1;have kf0:kf Pt.v l k=l[k].v:=GP Pt.v h0
  by_cases hlt:l[k+1].v<l[k].v
  .have hs2:Aaz Pt.v (DL l (k+1) k) a i k:=Acl (j:=k+1) Pt.v hi (by omega) hj hs (by rw[Ax2,kf1,kf0];exact hlt)
   have hlen:=JM l (k+1) k;obtain⟨r,g,hr,hp,ho,hsm⟩:=ih k (DL l (k+1) k) (by omega) (by omega) (by omega) (by omega) (by omega) hs2;rw[hlen]at g hr;refine⟨r,?_,hr,hp.trans (Io _ _ _),ho,(Aco (by omega) (by omega) (by omega) (by omega)).trans hsm⟩;refine Ax K IW (Xm ..) ?_;refine Ao ?_;rw[Wm (by omega),AA,Be h1];refine Af ?_;refine(BC AE l (k+1) h1 _).trans ?_;simp only[eP,eN,Ae];rw[AA,Be h0];refine Af ?_;refine(BC AE l k h0 _).trans ?_;simp only[eP,eN,Ae];refine Aa (IR K l[k+1] l[k]) ?_;simp only[Ae];refine Ao ?_ (Gq.2 hlt);rw[AA,Be h0];refine Af ?_;refine(BC AE l k h0 _).trans ?_;simp only[eP,eN,Ae];rw[AA,Be h1];refine Af ?_;refine(BC AE l (k+1) h1 _).trans ?_;simp only[eP,eN,Ae];rw[AA,Be h1];refine Af ?_;have s1:=Db AE l (k+1) h1 l[k];have s2:=Db AE (l.set (k+1) l[k]) k (by rw[Awf];exact h0) l[k+1];rw[←Ep h1 h0]at s2;simp only[eP,eN]at s1 s2;rw[show AvL (0+(k+1)*3+3) (Av eP l).length=U by rw[BK AE];simp;omega];refine Af ?_;rw[AA,Be h0];refine Af ?_;rw[s1,s2];rw[show AvL (0+k*3+3) (Av eP (l.set (k+1) l[k])).length=U by rw[BK AE,Awf];simp;omega];refine Af ?_;refine Aa g ?_;rfl
  .refine⟨l,?_,rfl,List.Perm.refl _,Wl Pt.v hj hs (.inr ?_),DH _ _ _⟩
   .skip
    refine Ax K IW (Xm ..) ?_;refine Ao ?_;rw[Wm (by omega),AA,Be h1];refine Af ?_;refine(BC AE l (k+1) h1 _).trans ?_;simp only[eP,eN,Ae];rw[AA,Be h0];refine Af ?_;refine(BC AE l k h0 _).trans ?_;simp only[eP,eN,Ae];refine Aa (IR K l[k+1] l[k]) ?_;simp only[Ae];exact Am rfl (λh=>hlt (Gq.1 h))
   .rw[Ax2,kf1,kf0]
    omega
theorem Ait(a b:Nat):∀(m i:Nat) (l:List Pt),b-i=m->a<i->i<=b->b<=l.length->l.length<=1000000000->Srt Pt.v l a i->
  ∃ r:List Pt,D.ask (.lp 242 0) [.sl 0 0 l.length 3,iv (a:Int),iv (b:Int),GM,iv (i:Int)] [Ψ (Av eP l) U U]
   = V (.tup [iv 0,.sl 0 0 l.length 3],[.set (Ψ (Av eP r) U U)])
   ∧ r.length=l.length/\r.Perm l/\Srt Pt.v r a b/\Same0 l r a b:=by
 intro m
 induction m with
 |zero=>
  intro i l hm ha hi hb hl hs;obtain rfl:i=b:=by omega
  refine⟨l,?_,rfl,List.Perm.refl _,hs,DH _ _ _⟩;refine Ax K IW (Xl ..) ?_;exact Am rfl
 |succ m ih=>
  intro i l hm ha hi hb hl hs;obtain⟨r,g,hr,hp,ho,hsm⟩:=Aoj K a i (b:Int) _ i l rfl (by omega) (η _) (by omega) hl (Yz Pt.v hs);obtain⟨r2,g2,hr2,hp2,ho2,hsm2⟩:=ih (i+1) r (by omega) (by omega) (by omega) (by omega) (by omega) ho;rw[hr]at g2;refine⟨r2,?_,by omega,hp2.trans hp,ho2,(hsm.wide (η _) (by omega)).trans hsm2⟩;refine Ax K IW (Xl ..) ?_;refine Ao ?_;refine Aa g ?_;simp only[GM,Ae];refine Af ?_;rw[Bn (by omega)];refine Aa g2 ?_;rfl
theorem Ae6{a b:Nat}{l:List Pt}(hab:a<=b)(hb:b<=l.length)(hl:l.length<=1000000000) :
  ∃ r:List Pt,D.ask (.fn 242) [.sl 0 0 l.length 3,iv (a:Int),iv (b:Int),GM] [Ψ (Av eP l) U U]=V (.tup [],[.set (Ψ (Av eP r) U U)])
   ∧ r.length=l.length/\r.Perm l/\Srt Pt.v r a b/\Same0 l r a b:=by
 by_cases h:a<b
 .obtain⟨r,g,hr⟩:=Ait K a b _ (a+1) l rfl (by omega) (by omega) hb hl (AjW Pt.v l a)
  refine⟨r,?_,hr⟩;refine Aq K IW (Aqg ..) ?_;rw[Bn (by omega)];refine Aa g ?_;rfl
 .obtain rfl:a=b:=by omega
  have g:D.ask (.lp 242 0) [.sl 0 0 l.length 3,iv (a:Int),iv (a:Int),GM,iv ((a+1:Nat):Int)] [Ψ (Av eP l) U U]=V (.tup [iv 0,.sl 0 0 l.length 3],[.set (Ψ (Av eP l) U U)]):=by
   refine Ax K IW (Xl ..) ?_;exact Am rfl
  refine⟨l,?_,rfl,List.Perm.refl _,AjV Pt.v l a,DH _ _ _⟩;refine Aq K IW (Aqg ..) ?_;rw[Bn (by omega)];refine Aa g ?_;rfl
end
structure Tm where
 ps:List Pt
 k:Zi
def eT(t:Tm):Ab:=[.ls (t.ps.map eP),bv t.k.neg,eN t.k.abs]
structure Lf where
 ps:List (Int × Int)
 k:Int
def pv(p:Pt):Int × Int:=(p.v,zv p.z)
def BD(p:Int × Int):Pt:=⟨p.1,A3 p.2⟩
def Tm.lf(t:Tm):Lf:=⟨t.ps.map pv,zv t.k⟩
def Lf.tm(l:Lf):Tm:=⟨l.ps.map BD,A3 l.k⟩
def Lf.pln(l:Lf):Lf:=⟨E7 l.ps,l.k⟩
theorem Ajw(p:Int × Int):pv (BD p)=p:=by
 unfold pv BD;rw[BU]
theorem C5(l:Lf):l.tm.lf=l:=by
 obtain⟨ps,k⟩:=l;unfold Lf.tm Tm.lf;simp only[List.map_map,BU];rw[show (pv ∘ BD)=id from funext Ajw,List.map_id]
theorem Ajv(l:Lf):l.pln.pln=l.pln:=by
 unfold Lf.pln;rw[Yi (FF _)]
structure TmB (n k:Nat) (t:Tm):Prop where
 len:t.ps.length<=n
 ps:∀ p∈t.ps,Lz k p.z
 k:Lz k t.k
structure LB (n k:Nat) (l:Lf):Prop where
 len:l.ps.length<=n
 ps:∀ p∈l.ps,InB k p.2
 k:InB k l.k
theorem TmB.lb{n k:Nat}{t:Tm}(h:TmB n k t):LB n k t.lf:=by
 refine⟨by simpa[Tm.lf]using h.len,λp hp=>?_,h.k.inb⟩;simp only[Tm.lf,AwV]at hp;obtain⟨q,hq,rfl⟩:=hp;exact(h.ps q hq).inb
theorem LB.tb{n k:Nat}{l:Lf}(h:LB n k l):TmB n k l.tm:=by
 refine⟨by simpa[Lf.tm]using h.len,λp hp=>?_,h.k.lz⟩;simp only[Lf.tm,AwV]at hp;obtain⟨q,hq,rfl⟩:=hp;exact(h.ps q hq).lz
theorem LB.mono{n k m j:Nat}{l:Lf}(h:LB n k l)(hn:n<=m)(hk:k<=j):LB m j l:=⟨by have:=h.len;omega,λp hp=>(h.ps p hp).mono hk,h.k.mono hk⟩
theorem TmB.mono{n k m j:Nat}{t:Tm}(h:TmB n k t)(hn:n<=m)(hk:k<=j):TmB m j t:=⟨by have:=h.len;omega,λp hp=>(h.ps p hp).mono hk,h.k.mono hk⟩
theorem MJ{k:Nat}(v:Int):∀ l:List (Int × Int),(∀ p∈l,InB k p.2)->InB (k+l.length) (Bt v l)
 |[],_=>InB.zero _
 |p::r,h=>by
  have h1:=MJ v r λq hq=>h q (AvZ _ hq)
  have h2:=h p (AvX ..);rw[Bt,ε,←Nat.add_assoc];refine InB.add ?_ h1;split
  .exact h2.mono (by omega)
  .exact InB.zero _
theorem Pln.mem:∀{l:List (Int × Int)},Pln l->∀ p∈l,Bt p.1 l=p.2
 |q::r,h,p,hp=>by
  rcases AvK.1 hp with rfl|hp
  .exact h.head
  .rw[Bt,Ad (by have:=(Awd.1 h.asc).1 p hp;omega),h.tail.mem p hp]
   omega
theorem LB.pln{n k:Nat}{l:Lf}(h:LB n k l):LB n (k+n) l.pln:=by
 have hl:=R2 l.ps;refine⟨by have:=h.len;simp only[Lf.pln];omega,λp hp=>?_,h.k.mono (by omega)⟩;have h1:=(FF l.ps).mem p hp;rw[KU,Ac ((FF l.ps).pos p hp)]at h1;rw[←h1];exact(MJ p.1 l.ps h.ps).mono (by have:=h.len;omega)
def Lf.add(a b:Lf):Lf:=Lf.pln ⟨a.ps++b.ps,a.k+b.k⟩
def Lf.scale(a:Lf)(n:Int):Lf:=Lf.pln ⟨a.ps.map λp=>(p.1,p.2*n),a.k*n⟩
def Lf.sub(a b:Lf):Lf:=a.add (b.scale (-1))
def Lf.num(k:Int):Lf:=⟨[],k⟩
theorem LB.app{n k m j:Nat}{a b:Lf}(ha:LB n k a)(hb:LB m j b):LB (n+m) (k+j+1) ⟨a.ps++b.ps,a.k+b.k⟩:=by
 refine⟨by have:=ha.len;have:=hb.len;simp only[ζ];omega,λp hp=>?_,InB.add (ha.k.mono (by omega)) (hb.k.mono (by omega))⟩;rcases Awg.1 hp with h|h
 .exact(ha.ps p h).mono (by omega)
 .exact(hb.ps p h).mono (by omega)
theorem LB.mul{n k j:Nat}{a:Lf}{x:Int}(ha:LB n k a)(hx:InB j x):LB n (k+j) ⟨a.ps.map λp=>(p.1,p.2*x),a.k*x⟩:=by
 refine⟨by simpa using ha.len,λp hp=>?_,InB.mul ha.k hx⟩;simp only[AwV]at hp;obtain⟨q,hq,rfl⟩:=hp;exact InB.mul (ha.ps q hq) hx
theorem LB.add{n k m j:Nat}{a b:Lf}(ha:LB n k a)(hb:LB m j b):LB (n+m) (k+j+1+(n+m)) (a.add b):=(ha.app hb).pln
theorem LB.scale{n k j:Nat}{a:Lf}{x:Int}(ha:LB n k a)(hx:InB j x):LB n (k+j+n) (a.scale x):=(ha.mul hx).pln
def Ar6(f:Int->Int):List (Int × Int)->Int
 |[]=>0
 |p::r=>p.2*f p.1+Ar6 f r
def Lf.val(f:Int->Int)(l:Lf):Int:=Ar6 f l.ps+l.k
inductive Fm where
 |mk (kind:Int) (t:Tm) (eq:Bool) (kids:List Fm)
mutual
def eF:Fm->Ab
 |.mk k t e ks=>[iv k,.ls (t.ps.map eP),bv t.k.neg,eN t.k.abs,bv e,.ls (eFs ks)]
def eFs:List Fm->Rw
 |[]=>[]
 |x::r=>eF x::eFs r
end
theorem B2:∀ l,eFs l=l.map eF
 |[]=>rfl
 |x::r=>by simp[eFs,B2 r]
def Fm.kind:Fm->Int
 |.mk k _ _ _=>k
def Fm.tm:Fm->Tm
 |.mk _ t _ _=>t
def Fm.eq:Fm->Bool
 |.mk _ _ e _=>e
def Fm.kids:Fm->List Fm
 |.mk _ _ _ ks=>ks
def Tm0:Tm:=⟨[],⟨Θ,[]⟩⟩
def Nq:Lf:=⟨[],0⟩
theorem Ti:Nq.tm=Tm0:=by
 unfold Lf.tm Nq Tm0;rw[QE];rfl
def kF(k:Int)(ks:List Fm):Fm:=.mk k Tm0 Θ ks
def Og(b:Bool):Fm:=kF (if b then 0 else 1) []
def D3(l:Lf)(e:Bool):Fm:=.mk 2 l.tm e []
def I2:Fm->List Fm
 |.mk k _ _ ks=>if k=4\/k=5 then ks else if k=3 then ks.take 1 else []
mutual
def Br:Fm->Fm
 |.mk k t e ks=>if k=0 then Og U else if k=2 then D3 t.lf.pln e else if k=3 then kF 3 (On ks) else if k=4\/k=5 then kF k (Jz ks) else Og Θ
def On:List Fm->List Fm
 |[]=>[]
 |x::_=>[Br x]
def Jz:List Fm->List Fm
 |[]=>[]
 |x::r=>Br x::Jz r
end
theorem Gp:∀ l,Jz l=l.map Br
 |[]=>rfl
 |x::r=>by simp[Jz,Gp r]
theorem Nx:∀ l,On l=(l.take 1).map Br
 |[]=>rfl
 |x::r=>by simp[On]
def MH(op:Int)(l r:Lf):Fm:=
 if op=0 then D3 (l.sub r) U
 else if op=1 then kF 3 [D3 (l.sub r) U]
 else if op=2 then D3 ((r.sub l).sub (.num 1)) Θ
 else if op=3 then D3 (r.sub l) Θ
 else if op=4 then D3 ((l.sub r).sub (.num 1)) Θ
 else if op=5 then D3 (l.sub r) Θ
 else Og Θ
mutual
inductive CanF:Fm->Prop
 |tru (b:Bool):CanF (Og b)
 |atom (l:Lf) (e:Bool) (h:l.pln=l):CanF (D3 l e)
 |no (x:Fm) (h:CanF x):CanF (kF 3 [x])
 |and (l:List Fm) (h:CanFs l):CanF (kF 4 l)
 |or (l:List Fm) (h:CanFs l):CanF (kF 5 l)
 |no0:CanF (kF 3 [])
inductive CanFs:List Fm->Prop
 |nil:CanFs []
 |cons {x:Fm} {r:List Fm} (h:CanF x) (hr:CanFs r):CanFs (x::r)
end
mutual
theorem CanF.clone:∀{x:Fm},CanF x->Br x=x
 |_,.tru b=>by cases b<;>rfl
 |_,.atom l e h=>by
  unfold D3;rw[Br,Ad (by decide),Ac rfl,C5,h];rfl
 |_,.no x h=>by
  unfold kF;rw[Br,Ad (by decide),Ad (by decide),Ac rfl,On,h.clone];rfl
 |_,.and l h=>by
  unfold kF;rw[Br,Ad (by decide),Ad (by decide),Ad (by decide),Ac (.inl rfl),h.clone];rfl
 |_,.or l h=>by
  unfold kF;rw[Br,Ad (by decide),Ad (by decide),Ad (by decide),Ac (.inr rfl),h.clone];rfl
 |_,.no0=>rfl
theorem CanFs.clone:∀{l:List Fm},CanFs l->Jz l=l
 |_,.nil=>rfl
 |_,.cons h hr=>by rw[Jz,h.clone,hr.clone]
end
theorem Dx(l r:Lf):(l.sub r).pln=l.sub r:=Ajv _
theorem Adr(op:Int)(l r:Lf):CanF (MH op l r):=by
 unfold MH
 repeat' split
 .exact .atom _ _ (Dx _ _)
 .exact .no _ (.atom _ _ (Dx _ _))
 .exact .atom _ _ (Dx _ _)
 .exact .atom _ _ (Dx _ _)
 .exact .atom _ _ (Dx _ _)
 .exact .atom _ _ (Dx _ _)
 .exact .tru _
def or2(a b:Int):Int:=if a=0 then b else a
theorem PQ{a b:Int}:or2 a b=0 ↔ a=0/\b=0:=by
 unfold or2;split<;>simp_all
theorem MI{a b:Int}:Gi a b=0 ↔ a=b:=by
 grind [Gi]
def Ri(p q:Int × Int):Int:=or2 (Gi p.1 q.1) (Gi p.2 q.2)
theorem O0{p q:Int × Int}:Ri p q=0 ↔ p=q:=by
 grind [Ri,Prod.ext_iff,MI,PQ]
def Lo:List (Int × Int)->List (Int × Int)->Option Int
 |[],_=>none
 |_::_,[]=>V 1
 |p::a,q::b=>if Ri p q=0 then Lo a b else V (Ri p q)
def Us(a b:List (Int × Int)):Int:=match Lo a b with
 |some n=>n
 |none=>if a.length<b.length then -1 else 0
theorem YZ:∀{a b:List (Int × Int)} {n:Int},Lo a b=V n->n≠0
 |[],_,_,h=>by cases h
 |_::_,[],n,h=>by
  grind [Lo]
 |p::a,q::b,n,h=>by
  rw[Lo]at h;split at h
  .exact YZ h
  .grind
theorem Rg:∀{a b:List (Int × Int)},Lo a b=none->¬ a.length<b.length->a=b
 |[],b,_,h=>by
  simp_all
 |_::_,[],h,_=>by cases h
 |p::a,q::b,h,hl=>by
  rw[Lo]at h;split at h
  .rename_i h0
   rw[O0.1 h0,Rg h (by simpa using hl)]
  .cases h
theorem Rh:∀ a:List (Int × Int),Lo a a=none
 |[]=>rfl
 |p::a=>by rw[Lo,Ac (O0.2 rfl),Rh a]
theorem Xb{a b:List (Int × Int)}:Us a b=0 ↔ a=b:=by
 unfold Us;constructor
 .intro h
  cases e:Lo a b with
  |some n=>
   rw[e]at h;exact absurd h (YZ e)
  |none=>
   rw[e]at h;refine Rg e λhl=>?_
   simp only[Ac hl]at h;omega
 .rintro rfl
  rw[Rh];simp
def AaT(a b:Lf):Int:=or2 (Us a.ps b.ps) (Gi a.k b.k)
theorem AaU{a b:Lf}:AaT a b=0 ↔ a=b:=by
 obtain⟨p,k⟩:=a;obtain⟨q,j⟩:=b;unfold AaT;rw[PQ,Xb,MI];simp
def Z8(e:Bool):Int:=if e then 1 else 0
def SS(a b:Lf)(e f:Bool):Int:=or2 (AaT a b) (Gi (Z8 e) (Z8 f))
theorem Re{a b:Lf}{e f:Bool}:SS a b e f=0 ↔ a=b/\e=f:=by
 grind [SS,Z8,AaU,MI,PQ]
mutual
def WM:Fm->Fm->Bool
 |.mk k t e ks,.mk j u f js=>decide (k=j)&&(!decide (k=2)||decide (SS t.lf.pln u.lf.pln e f=0))&&decide (ks.length=js.length)&&JP ks js
def JP:List Fm->List Fm->Bool
 |[],_=>U
 |_::_,[]=>Θ
 |x::a,y::b=>WM x y&&JP a b
end
theorem Xt(k j:Int)(t u:Tm)(e f:Bool)(ks js:List Fm):WM (.mk k t e ks) (.mk j u f js)=(decide (k=j)&&(!decide (k=2)||decide (SS t.lf.pln u.lf.pln e f=0))&&decide (ks.length=js.length)&&JP ks js):=by
 rw[WM]
theorem MN(x y:Fm)(a b:List Fm):JP (x::a) (y::b)=(WM x y&&JP a b):=by rw[JP]
mutual
theorem Uy:∀ x:Fm,WM x x=U
 |.mk k t e ks=>by
  rw[Xt,Rm ks,Re.2 ⟨rfl,rfl⟩];simp
theorem Rm:∀ l:List Fm,JP l l=U
 |[]=>by rw[JP]
 |x::r=>by rw[MN,Uy x,Rm r];rfl
end
theorem CanFs.mem:∀{l:List Fm},CanFs l->∀ x∈l,CanF x
 |_::_,.cons h hr,x,hx=>by
  rcases AvK.1 hx with rfl|hx
  .exact h
  .exact hr.mem x hx
theorem CanF.kids{x:Fm}(h:CanF x):∀ y∈x.kids,CanF y:=by
 cases h with
 |tru b=>intro y hy;cases b<;>cases hy
 |atom l e h=>intro y hy;cases hy
 |no x h=>intro y hy;rcases Awk.1 hy with rfl;exact h
 |and l h=>exact h.mem
 |or l h=>exact h.mem
 |no0=>intro y hy;cases hy
theorem CanF.head{x:Fm}(h:CanF x):(x.kind=2/\x.kids=[]/\∃ l:Lf,l.pln=l/\x.tm=l.tm)\/(x.kind≠2/\x.tm=Tm0/\x.eq=Θ):=by
 cases h with
 |tru b=>exact .inr ⟨by cases b<;>decide,rfl,rfl⟩
 |atom l e h=>exact .inl ⟨rfl,rfl,l,h,rfl⟩
 |no x h=>exact .inr ⟨by show (3:Int)≠2;decide,rfl,rfl⟩
 |and l h=>exact .inr ⟨by show (4:Int)≠2;decide,rfl,rfl⟩
 |or l h=>exact .inr ⟨by show (5:Int)≠2;decide,rfl,rfl⟩
 |no0=>exact .inr ⟨by show (3:Int)≠2;decide,rfl,rfl⟩
theorem Aia:∀ n:Nat,(∀ x y:Fm,SizeOf.sizeOf x<n->CanF x->CanF y->WM x y=U->x=y)/\(∀ a b:List Fm,SizeOf.sizeOf a<n->(∀ x∈a,CanF x)->(∀ x∈b,CanF x)->a.length=b.length->JP a b=U->a=b):=by
 intro n
 induction n with
 |zero=>exact⟨λx y h=>by omega,λa b h=>by omega⟩
 |succ n ih=>
  refine⟨λx y hn hx hy h=>?_,λa b hn ha hb hl h=>?_⟩
  .have kx:=hx.kids
   have ky:=hy.kids;have dx:=hx.head;have dy:=hy.head;obtain⟨k,t,e,ks⟩:=x;obtain⟨j,u,f,js⟩:=y;rw[Xt]at h;simp only[AvF,decide_eq_true_eq]at h;obtain⟨⟨⟨rfl,h2⟩,hl⟩,hs⟩:=h;have e1:=ih.2 ks js (by simp only[Fm.mk.sizeOf_spec]at hn;omega) kx ky hl hs;simp only[Fm.kind,Fm.kids,Fm.tm,Fm.eq]at dx dy;subst e1;rcases dx with⟨d0,_,l,hp,rfl⟩|⟨d0,rfl,rfl⟩
   .rcases dy with⟨_,_,m,hq,rfl⟩|⟨d1,_⟩
    .subst d0
     rw[C5,C5,hp,hq]at h2;have:=Re.1 (by simpa using h2);rw[this.1,this.2]
    .exact absurd d0 d1
   .grind
  .cases a with
   |nil=>cases b with
    |nil=>rfl
    |cons _ _=>cases hl
   |cons x a=>cases b with
    |nil=>cases hl
    |cons y b=>
     rw[MN,AvF]at h;have hz:SizeOf.sizeOf (x::a)=1+SizeOf.sizeOf x+SizeOf.sizeOf a:=rfl;rw[ih.1 x y (by omega) (ha x (AvX ..)) (hb y (AvX ..)) h.1,ih.2 a b (by omega) (λz hz=>ha z (AvZ _ hz)) (λz hz=>hb z (AvZ _ hz)) (by simpa using hl) h.2]
theorem Y9{x y:Fm}(hx:CanF x)(hy:CanF y):WM x y=U ↔ x=y:=⟨(Aia _).1 x y (Nat.lt_succ_self _) hx hy,by rintro rfl;exact Uy x⟩
def GO:List (Int × Int)->Int × Int->List (Int × Int)
 |[],p=>if p.1<0 then [] else [p]
 |q::r,p=>if p.1<0 then q::r else if q.1=p.1 then(q.1,q.2+p.2)::r else p::q::r
theorem G2(p:Int × Int):GO [] p=if p.1<0 then [] else [p]:=rfl
theorem Fz(q:Int × Int)(r:List (Int × Int))(p:Int × Int):GO (q::r) p=if p.1<0 then q::r else if q.1=p.1 then(q.1,q.2+p.2)::r else p::q::r:=rfl
structure GrpI (s t:List (Int × Int)):Prop where
 desc:s.Pairwise λa b=>b.1<a.1
 pos:∀ q∈s,0<=q.1
 up:∀ q∈s,∀ p∈t,0<=p.1->q.1<=p.1
theorem Aba(v:Int)(hv:0<=v):∀(s:List (Int × Int)) (p:Int × Int),Bt v (GO s p)=Bt v s+(if p.1=v then p.2 else 0)
 |[],p=>by
  rw[G2];split
  .omega
  .simp[Bt]
 |q::r,p=>by
  rw[Fz];split
  .rw[Ad (by omega)];omega
  .grind [Bt]
theorem AeE{s t:List (Int × Int)}{p:Int × Int}(h:GrpI s (p::t))(ht:∀ x∈t,p.1<=x.1):GrpI (GO s p) t:=by
 have ut:∀ q∈s,∀ x∈t,0<=x.1->q.1<=x.1:=λq hq x hx=>h.up q hq x (AvZ _ hx)
 cases s with
 |nil=>
  rw[G2];split
  .exact⟨.nil,by simp,by simp⟩
  .exact⟨Ayg _ _,by simp;omega,λq hq x hx _=>by rw[Awk.1 hq];exact ht x hx⟩
 |cons q r=>
  have hd:=Awd.1 h.desc;rw[Fz];split
  .exact⟨h.desc,h.pos,ut⟩
  .rename_i hp
   split
   .refine⟨Awd.2 ⟨λx hx=>hd.1 x hx,hd.2⟩,λx hx=>?_,λx hx y hy hy0=>?_⟩
    .rcases AvK.1 hx with rfl|hx
     .omega
     .exact h.pos x (AvZ _ hx)
    .grind
   .rename_i hne
    have hq:=h.up q (AvX ..) p (AvX ..) (by omega);refine⟨Awd.2 ⟨λx hx=>?_,h.desc⟩,λx hx=>?_,λx hx y hy hy0=>?_⟩
    .grind
    .rcases AvK.1 hx with rfl|hx
     .omega
     .exact h.pos x hx
    .grind
theorem Ze:∀(t s:List (Int × Int)),t.Pairwise (λa b=>a.1<=b.1)->GrpI s t->GrpI (t.foldl GO s) []/\∀ v,0<=v->Bt v (t.foldl GO s)=Bt v s+Bt v t
 |[],s,_,h=>⟨h,λv _=>by simp[Bt]⟩
 |p::t,s,ht,h=>by
  have hp:=Awd.1 ht;obtain⟨g1,g2⟩:=Ze t (GO s p) hp.2 (AeE h hp.1);refine⟨g1,λv hv=>?_⟩;rw[Axu,g2 v hv,Aba v hv,Bt];omega
theorem Uu(v:Int):∀ l:List (Int × Int),Bt v (l.filter λp=>!decide (p.2=0))=Bt v l
 |[]=>rfl
 |p::r=>by
  have ih:=Uu v r
  by_cases h:p.2=0
  .grind [Bt]
  .grind [Bt]
theorem Ain{t l:List (Int × Int)}(ht:t.Pairwise λa b=>a.1<=b.1)(hp:t.Perm l):((t.foldl GO []).reverse).filter (λp=>!decide (p.2=0))=E7 l:=by
 obtain⟨g1,g2⟩:=Ze t [] ht ⟨.nil,by simp,by simp⟩;refine PT ⟨?_,λp h=>?_,λp h=>?_⟩ λv hv=>?_
 .refine List.Pairwise.filter _ ?_
  rw[List.pairwise_reverse];exact g1.desc
 .have:=(AxW.1 h).1
  exact g1.pos p (List.mem_reverse.1 this)
 .simpa using (AxW.1 h).2
 .first|grind [Bt,Uu,Xd] | grind [Bt,List.reverse_perm,Uu,Xd]
theorem UL{k:Nat}{s:List (Int × Int)}{p:Int × Int}(hs:∀ q∈s,InB k q.2)(hp:InB k p.2):∀ q∈GO s p,InB (k+1) q.2:=by
 cases s with
 |nil=>
  rw[G2];split
  .simp
  .intro q hq
   rw[Awk.1 hq];exact hp.mono (by omega)
 |cons q r=>
  rw[Fz];have hq:=hs q (AvX ..);have hr:∀ x∈r,InB (k+1) x.2:=λx hx=>(hs x (AvZ _ hx)).mono (by omega)
  split
  .intro x hx
   rcases AvK.1 hx with rfl|hx
   .exact hq.mono (by omega)
   .exact hr x hx
  .split
   .grind [InB.add]
   .intro x hx
    rcases AvK.1 hx with rfl|hx
    .exact hp.mono (by omega)
    .rcases AvK.1 hx with rfl|hx
     .exact hq.mono (by omega)
     .exact hr x hx
theorem UM(s:List (Int × Int))(p:Int × Int):(GO s p).length<=s.length+1:=by
 cases s with
 |nil=>rw[G2];split<;>simp
 |cons q r=>
  rw[Fz];split
  .simp
  .split<;>simp
theorem F6(x:Nat):Ai.conv .u32 (x:Int)=((x % 4294967296:Nat):Int):=by
 show IntKind.u32.wrap (x:Int)=_
 rw[IntKind.wrap_u32];omega
theorem BT{x:Nat}(h:x<4294967296):Ai.conv .u32 (x:Int)=(x:Int):=by rw[F6,Axe h]
theorem Cf{x:Nat}(h:x<18446744073709551616):Ai.conv .u64 (x:Int)=(x:Int):=by
 show IntKind.u64.wrap (x:Int)=_
 rw[IntKind.wrap_u64];omega
theorem Dw{x y:Nat}(h:x+y<18446744073709551616):Ai.add .u64 (x:Int) (y:Int)=((x+y:Nat):Int):=by
 show IntKind.u64.wrap ((x:Int)+(y:Int))=_
 rw[IntKind.wrap_u64];omega
theorem Ig{x y:Nat}(h:y<=x)(h2:x<18446744073709551616):Ai.sub .u64 (x:Int) (y:Int)=((x-y:Nat):Int):=by
 show IntKind.u64.wrap ((x:Int)-(y:Int))=_
 rw[IntKind.wrap_u64];omega
theorem TA{x y:Nat}(h:x*y<18446744073709551616):Ai.mul .u64 (x:Int) (y:Int)=((x*y:Nat):Int):=by
 show IntKind.u64.wrap ((x:Int)*(y:Int))=_
 rw[IntKind.wrap_u64,←AxV];omega
theorem LY(x:Nat):Ai.shr .u64 (x:Int) 32=((x / 4294967296:Nat):Int):=by
 show Int.fdiv (x:Int) (2 ^ 32)=_
 have:(2 ^ 32:Int)=((4294967296:Nat):Int):=by decide
 rw[this,Int.fdiv_eq_ediv_of_nonneg _ (by omega)];rfl
theorem Z7(x y:Nat):Ai.add .u32 (x:Int) (y:Int)=(((x+y) % 4294967296:Nat):Int):=by
 show IntKind.u32.wrap ((x:Int)+(y:Int))=_
 rw[IntKind.wrap_u32];omega
theorem Oz(x y:Nat):Ai.mul .u32 (x:Int) (y:Int)=(((x*y) % 4294967296:Nat):Int):=by
 show IntKind.u32.wrap ((x:Int)*(y:Int))=_
 rw[IntKind.wrap_u32,←AxV];omega
theorem Ar5{i j:Nat}(h:j<=i)(h2:i<4611686018427387904):Ai.sub .i64 (i:Int) (j:Int)=((i-j:Nat):Int):=by
 rw[Hc (by omega) (by omega)];omega
theorem Anz{i j:Nat}(h2:i+j<4611686018427387904):Ai.add .i64 (i:Int) (j:Int)=((i+j:Nat):Int):=by
 rw[Ha (by omega) (by omega)];omega
theorem Hw(kd:IntKind)(n:Int)(r:Ab)(k:Int->Ab->KR):OX kd (.v (.int kd n)::r) k=k n r:=by simp[OX]
theorem Ua(kd:IntKind)(n:Int)(k:Int->KR):Kb kd (.v (.int kd n)) k=k n:=by simp[Kb]
theorem AaZ(n:Nat)(k:Int->Ab->KR)(r:Ab):OX .u32 (.v (.int .u32 (n:Int))::r) k=k n r:=rfl
theorem Aau(l:Al):GH 1 (l.map eL)=U:=Hp A9 l
theorem Ao4(l:Al):LQ (Kz (l.map eL))=U:=by rw[FO];exact LR (λ_=>rfl) l
theorem Ajn(l:Al):A6 (Kz (l.map eL))=U:=by
 rw[FO]
 induction l with
 |nil=>rfl
 |cons x r ih=>exact ih
theorem Wt(l:Al)(n:Nat):IS (Jo (l.map eL) n) 0=(l.take n).map eL:=by
 rw[Jp,IT,κ,AyR]
theorem IP:∀(a b:Al) (c:Nat),(Mx c a b).length=a.length+1
 |[],_,_=>rfl
 |x::a,b,c=>by rw[Mx,ε,IP a,ε]
theorem OZ{a b:Nat}(h:(AY a).length<(AY b).length):a<b:=by
 by_cases h2:a<b
 .exact h2
 .have h3:AF b=AF b:=rfl
  have h4:0<(AY b).length:=by omega
  have hb:4294967296 ^ ((AY b).length-1)<=b:=by
   by_cases h5:4294967296 ^ ((AY b).length-1)<=b
   .exact h5
   .have:=BR (n:=b) (k:=(AY b).length-1) (by omega)
    omega
  have h6:=Vs (n:=a) (k:=(AY b).length-1) (by omega);omega
def CS(l:Al):Prop:=l.length<=1000000000
theorem Ic{l:Al}(h:Limbs l)(h2:CS l):CS (AY (As l)):=by
 unfold CS at *;rw[I7 l h];have:=Er l;omega
structure CloneF (D:Orc):Prop where
 nat:∀ l:Al,CS l->D.ask (.fn 240) [eN l] []=V (.sl 0 0 l.length 1,[.set (Ψ (Av eL l) U U)])
theorem AaQ{l:Al}(h:CS l):JQ 1 (Dh 1 4) [eN l] []=V (.sl 0 0 l.length 1,[.set (Ψ (Av eL l) U U)]):=by
 unfold JQ Dh eN;have h4:AvL (AP (l.map eL)*4) 140737488355328=U:=by
  rw[Aj];unfold CS at h;simp;omega
 simp only[Aau,Ao4,Ajn,h4,Bool.and_true,if_true,Option.map_some];rw[Aj,FO]
section
variable {D:Orc} (K:Knows Ak NV D)
include K
theorem Aj9(l:Al)(hl:CS l):∀(n:Nat),n<=l.length->Dz l<=n->D.ask (.lp 204 0) [eN l,iv (n:Int)] []=V (.tup [iv 0,eN l,iv (Dz l:Int)],[]):=by
 intro n;have hl':=hl;unfold CS at hl'
 induction n with
 |zero=>
  intro _ ht;refine Ax K U3 (AdS ..) ?_;refine Am ?_;rw[show Dz l=0 by omega];rfl
 |succ n ih=>
  intro hn ht;refine Ax K U3 (AdS ..) ?_;refine Ao ?_;rw[show Ai.sub .i64 ((n+1:Nat):Int) 1=(n:Int) from (Ar5 (i:=n+1) (j:=1) (by omega) (by omega)).trans (by simp)];rw[AA,Az (Ω (show n<l.length by omega))];simp only[eL,AaZ,Ae]
  by_cases h0:l[n]=0
  .refine Aw ?_ (by rw[h0];rfl)
   refine Aa (ih (by omega) (Sn ht (by rw[Ω (show n<l.length by omega),h0]))) ?_;rfl
  .refine Ap ?_
   have:=T7 (Ω (show n<l.length by omega)) h0;rw[show Dz l=n+1 by omega];rfl
theorem Fu{l:Al}(hl:CS l)(h:Limbs l):D.ask (.fn 204) [eN l] []=V (eN (AY (As l)),[]):=by
 refine Aq K U3 (Aty ..) ?_;rw[Aj];refine Aa (Aj9 K l hl _ (η _) (Er l)) ?_;simp only[eN,Ae];rw[AA,Aj,Aau,Wt,Mp h];rw[show J1 0 (Dz l) l.length=U by unfold J1;rw[show AvL 0 (Dz l)=U by simp];simpa using Er l];rfl
variable (C:CloneF D)
include C
theorem Hr{l:Al}(hl:CS l)(h:Limbs l):D.ask (.fn 200) [eN l] []=V (eN (AY (As l)),[]):=by
 refine Aq K Alw (Atw ..) ?_;refine Aa (Fu K hl h) ?_;simp only[eN,Ae];have g:=C.nat _ (Ic h hl);unfold eN at g;refine Aa g ?_;simp only[Ae];rw[AK A9 _ (by omega)];refine Af ?_;rw[By A9 _ rfl]
theorem Akr(n:Nat)(h:n<18446744073709551616):D.ask (.fn 146) [.v (.int .u64 (n:Int))] []=V (eN (AY n),[]):=by
 refine Aq K Alb (AsZ ..) ?_;refine Am ?_ (by decide);rw[F6,LY,F6];have hl:Limbs [n % 4294967296,n / 4294967296 % 4294967296]:=B4 (Axg _ (by omega)) (B4 (Axg _ (by omega)) Ch);have g:=Hr K C (l:=[n % 4294967296,n / 4294967296 % 4294967296]) (by unfold CS;simp) hl;rw[show As [n % 4294967296,n / 4294967296 % 4294967296]=n by simp only[As];omega]at g;refine Aa g ?_;rfl
omit C in
theorem Anr(a b:Al)(ha:Limbs a)(hb:Limbs b)(hab:a.length=b.length)(hs:CS a):∀(n:Nat),n<=a.length->D.ask (.lp 205 0) [eN a,eN b,iv ((n:Int)-1)] []
  = V (if DX (As (a.take n)) (As (b.take n))=0 then .tup [iv 1] else .tup [bv U,iv (DX (As (a.take n)) (As (b.take n)))],[]):=by
 intro n;unfold CS at hs
 induction n with
 |zero=>
  intro _;refine Ax K U4 (AdT ..) ?_;refine C7 ?_;rfl
 |succ n ih=>
  intro hn;refine Ax K U4 (AdT ..) ?_;rw[show (((n+1:Nat):Int)-1)=(n:Int) by omega];refine CL ?_;have h1:n<a.length:=by omega
  have h2:n<b.length:=by omega
  have e1:a.take (n+1)=a.take n++[a[n]]:=by rw[AwG h1]
  have e2:b.take (n+1)=b.take n++[b[n]]:=by rw[AwG h2]
  rw[e1,e2,Ut (ha.take n) (hb.take n) (by simp;omega)];simp only[AA,Az (Ω h1),Az (Ω h2),eL,AaZ,Ae]
  by_cases h3:a[n]<b[n]
  .refine Ao ?_
   rw[Ac h3];rfl
  .refine Am ?_
   rw[Ad h3]
   by_cases h4:b[n]<a[n]
   .refine Ao ?_
    rw[Ac h4];rfl
   .refine Am ?_
    rw[Ad h4];rw[show Ai.sub .i64 (n:Int) 1=(n:Int)-1 from Hc (by omega) (by omega)];refine Aa (ih (by omega)) ?_
    by_cases h5:DX (As (a.take n)) (As (b.take n))=0
    .rw[Ac h5];rfl
    .rw[Ad h5];rfl
omit C in
theorem WP{a b:Al}(hsa:CS a)(ha:Limbs a)(hsb:CS b)(hb:Limbs b):D.ask (.fn 205) [eN a,eN b] []=V (iv (DX (As a) (As b)),[]):=by
 have s1:=Ic ha hsa;have s2:=Ic hb hsb;unfold CS at s1 s2;refine Aq K U4 (Atz ..) ?_;refine Aa (Fu K hsa ha) ?_;simp only[eN,Ae];refine Aa (Fu K hsb hb) ?_;simp only[eN,Ae,Aj];generalize As a=x at *;generalize As b=y at *
 by_cases h1:(AY x).length<(AY y).length
 .refine Ao ?_
  have:=OZ h1;unfold DX;rw[Ac this]
 .refine Am ?_
  by_cases h2:(AY y).length<(AY x).length
  .refine Ao ?_
   have:=OZ h2;unfold DX;rw[Ad (by omega),Ac this]
  .refine Am ?_
   have hx:(AY x).length=(AY y).length:=by omega
   have g:=Anr K (AY x) (AY y) (AF x) (AF y) hx s1 (AY x).length (η _);rw[AwQ,hx,AwQ,A1,A1]at g;rw[show Ai.sub .i64 ((AY x).length:Int) 1=((AY x).length:Int)-1 from Hc (by omega) (by omega),hx];refine Aa g ?_
   by_cases h5:DX x y=0
   .rw[Ac h5,h5];rfl
   .rw[Ad h5];rfl
omit C in
theorem AcV(b:Al)(hb:Limbs b)(a:Al)(ha:Limbs a)(hs:CS a):∀(k i:Nat) (out:Al) (c:Nat),a.length-i=k->i<=a.length->b.length<=a.length->c<=1->out.length+k<=2000000000->
  ∃(o:Al) (c':Nat),D.ask (.lp 149 0) [eN b,.sl 0 0 out.length 1,.v (.int .u64 (c:Int)),eN a,iv (a.length:Int),iv (i:Int)] [Ψ (Av eL out) U U]
   = V (.tup [iv 0,.sl 1 0 o.length 1,.v (.int .u64 (c':Int))],[.del,.set (Ψ (Av eL o) U U)])/\c'<=1/\o++[c']=out++Mx c (a.drop i) (b.drop i):=by
 intro k;unfold CS at hs
 induction k with
 |zero=>
  intro i out c hi hle hba hc ho;refine⟨out,c,?_,hc,?_⟩
  .refine Ax K UV (AdG ..) ?_
   refine Am ?_;rfl
  .rw[show a.drop i=[] from ο (by omega)]
   rfl
 |succ k ih=>
  intro i out c hi hle hba hc ho;have hlt:i<a.length:=by omega
  have hx:=ha.get hlt;have hbd:=FS (hb.drop i);have hdt:(b.drop i).tail=b.drop (i+1):=by rw[AxB]
  rw[show a.drop i=a[i]::a.drop (i+1) from ω hlt];obtain⟨o,c',h1,h2,h3⟩:=ih (i+1) (out++[(a[i]+(b.drop i).headD 0+c) % 4294967296]) ((a[i]+(b.drop i).headD 0+c) / 4294967296) (by omega) (by omega) hba (by omega) (by simp;omega);refine⟨o,c',?_,h2,?_⟩
  .refine Ax K UV (AdG ..) ?_
   refine Ao ?_;rw[AA,Az (Ω hlt)];have hf:AU (out.length+1) 4=U:=AL (by omega) (by omega);have hb1:AvL (0+out.length*1) (Av eL out).length=U:=AK A9 out (by omega);have e3:∀ s:Nat,AvI 0 (AvG (0+out.length*1) (Av eL out))++[.v (.int .u32 (s:Int))]=Av eL (out++[s]):=λs=>by
    rw[κ,A0 A9 out (by omega)];exact AW eL out s
   rw[ζ,Awo]at h1;simp only[eL,AaZ,Ae,Aj];rw[Bn (by omega)]
   by_cases hib:i<b.length
   .have hd:(b.drop i).headD 0=b[i]:=by rw[ω hib];rfl
    rw[hd]at h1 hbd;refine Ao ?_;rw[AA,Az (Ω hib)];simp only[eL,AaZ,Ae];rw[Cf (by omega),Cf (by omega),Dw (by omega),Dw (by omega),F6,LY,hf,hb1,e3];rw[show a[i]+c+b[i]=a[i]+b[i]+c by omega];refine Af ?_;refine Af ?_;refine Am ?_ (by decide);refine Aa h1 ?_;rfl
   .have hd:(b.drop i).headD 0=0:=by rw[ο (by omega)];rfl
    rw[hd]at h1;refine Am ?_;rw[Cf (by omega),Dw (by omega),F6,LY,hf,hb1,e3];rw[show a[i]+c=a[i]+0+c by omega];refine Af ?_;refine Af ?_;refine Am ?_ (by decide);refine Aa h1 ?_;rfl
  .rw[h3,Mx,hdt,AvO]
   rfl
theorem Anq{a b:Al}(hsa:a.length<=999999999)(ha:Limbs a)(hsb:b.length<=999999999)(hb:Limbs b):D.ask (.fn 149) [eN a,eN b] []=V (eN (AY (As a+As b)),[]):=by
 have s1:=Ic ha (by unfold CS;omega);have s2:=Ic hb (by unfold CS;omega);have t1:(AY (As a)).length<=999999999:=by rw[I7 a ha];have:=Er a;omega
 have t2:(AY (As b)).length<=999999999:=by rw[I7 b hb];have:=Er b;omega
 refine Aq K UV (As2 ..) ?_;refine Aa (Fu K (by unfold CS;omega) ha) ?_;simp only[eN,Ae];refine Aa (Fu K (by unfold CS;omega) hb) ?_;simp only[eN,Ae,Aj];generalize As a=x at *;generalize As b=y at *
 by_cases h1:(AY x).length<(AY y).length
 .refine Ao ?_
  have hl:Limbs (Mx 0 (AY y) (AY x)):=Kn _ _ _ (AF _) (AF _) (by omega);obtain⟨o,c',g,hc,ho⟩:=AcV K (AY x) (AF x) (AY y) (AF y) s2 (AY y).length 0 [] 0 (by omega) (by omega) (by omega) (by omega) (by unfold CS at s2;simp;omega);rw[AvV,κ,κ]at ho;have hol:o.length=(AY y).length:=by
   have:=congrArg AyC ho;rw[ζ,IP]at this;simpa using this
  have hsx:=s2;unfold CS at hsx;rw[show Ai.add .i64 ((AY y).length:Int) 1=(((AY y).length+1:Nat):Int) from Bn (by omega),AA];rw[AL (n:=(AY y).length+1) (b:=4) (by omega) (by omega)];refine Af ?_;refine Aa g ?_;simp only[Hw,Ae];rw[BT (by omega)];have e3:AvI 0 (AvG (0+o.length*1) (Av eL o))++[.v (.int .u32 (c':Int))]=Av eL (o++[c']):=by
   rw[κ,A0 A9 o (by omega)];exact AW eL o c'
  rw[AL (n:=o.length+1) (b:=4) (by omega) (by omega),AK A9 o (by omega),e3,AK A9 (o++[c']) (by simp)];refine Af ?_;refine Af ?_;refine Af ?_;rw[κ,A0 A9 (o++[c']) (by simp),show Bo (o.length+1) 1 (Av eL (o++[c']))=(o++[c']).map eL from by have:=Dk A9 (o++[c']);rwa [ζ]at this];rw[ho];have gt:=Hr K C (l:=Mx 0 (AY y) (AY x)) (by unfold CS;rw[IP];omega) hl;rw[Nm _ _ _ (by omega),A1,A1]at gt;refine Aa gt ?_;rw[show 0+y+x=x+y by omega];rfl
 .refine Am ?_
  have hl:Limbs (Mx 0 (AY x) (AY y)):=Kn _ _ _ (AF _) (AF _) (by omega);obtain⟨o,c',g,hc,ho⟩:=AcV K (AY y) (AF y) (AY x) (AF x) s1 (AY x).length 0 [] 0 (by omega) (by omega) (by omega) (by omega) (by unfold CS at s1;simp;omega);rw[AvV,κ,κ]at ho;have hol:o.length=(AY x).length:=by
   have:=congrArg AyC ho;rw[ζ,IP]at this;simpa using this
  have hsx:=s1;unfold CS at hsx;rw[show Ai.add .i64 ((AY x).length:Int) 1=(((AY x).length+1:Nat):Int) from Bn (by omega),AA];rw[AL (n:=(AY x).length+1) (b:=4) (by omega) (by omega)];refine Af ?_;refine Aa g ?_;simp only[Hw,Ae];rw[BT (by omega)];have e3:AvI 0 (AvG (0+o.length*1) (Av eL o))++[.v (.int .u32 (c':Int))]=Av eL (o++[c']):=by
   rw[κ,A0 A9 o (by omega)];exact AW eL o c'
  rw[AL (n:=o.length+1) (b:=4) (by omega) (by omega),AK A9 o (by omega),e3,AK A9 (o++[c']) (by simp)];refine Af ?_;refine Af ?_;refine Af ?_;rw[κ,A0 A9 (o++[c']) (by simp),show Bo (o.length+1) 1 (Av eL (o++[c']))=(o++[c']).map eL from by have:=Dk A9 (o++[c']);rwa [ζ]at this];rw[ho];have gt:=Hr K C (l:=Mx 0 (AY x) (AY y)) (by unfold CS;rw[IP];omega) hl;rw[Nm _ _ _ (by omega),A1,A1]at gt;refine Aa gt ?_;rw[show 0+x+y=x+y by omega];rfl
omit C in
theorem Anw(b:Al)(hb:Limbs b)(a:Al)(ha:Limbs a)(hs:CS a):∀(k i:Nat) (out:Al) (c:Nat),a.length-i=k->i<=a.length->c<=1->out.length+k<=2000000000->
  D.ask (.lp 150 0) [eN b,.sl 0 0 out.length 1,.v (.int .u64 (c:Int)),eN a,iv (a.length:Int),iv (i:Int)] [Ψ (Av eL out) U U]
   = V (.tup [iv 0,.sl 1 0 (out++Im c (a.drop i) (b.drop i)).length 1],[.del,.set (Ψ (Av eL (out++Im c (a.drop i) (b.drop i))) U U)]):=by
 intro k;unfold CS at hs
 induction k with
 |zero=>
  intro i out c hi hle hc ho;refine Ax K UW (AdH ..) ?_;refine Am ?_;rw[show a.drop i=[] from ο (by omega)];simp only[Im,List.append_nil]
  all_goals rfl
 |succ k ih=>
  intro i out c hi hle hc ho;have hlt:i<a.length:=by omega
  have hx:=ha.get hlt;have hbd:=FS (hb.drop i);have hdt:(b.drop i).tail=b.drop (i+1):=by rw[AxB]
  rw[show a.drop i=a[i]::a.drop (i+1) from ω hlt,Im,hdt];have h1:=ih (i+1) (out++[if a[i]<(b.drop i).headD 0+c then a[i]+4294967296-((b.drop i).headD 0+c) else a[i]-((b.drop i).headD 0+c)]) (if a[i]<(b.drop i).headD 0+c then 1 else 0) (by omega) (by omega) (by split<;>omega) (by simp;omega);rw[AvO,ζ,Awo]at h1;refine Ax K UW (AdH ..) ?_;refine Ao ?_;rw[AA,Az (Ω hlt)];have hf:AU (out.length+1) 4=U:=AL (by omega) (by omega);have hb1:AvL (0+out.length*1) (Av eL out).length=U:=AK A9 out (by omega);have e3:∀ s:Nat,AvI 0 (AvG (0+out.length*1) (Av eL out))++[.v (.int .u32 (s:Int))]=Av eL (out++[s]):=λs=>by
   rw[κ,A0 A9 out (by omega)];exact AW eL out s
  simp only[eL,AaZ,Ae,Aj];rw[Bn (by omega)]
  by_cases hib:i<b.length
  .have hd:(b.drop i).headD 0=b[i]:=by rw[ω hib];rfl
   rw[hd]at h1 hbd;rw[hd];refine Ao ?_;rw[AA,Az (Ω hib)];simp only[eL,AaZ,Ae];rw[Cf (show a[i]<_ by omega),Cf (show b[i]<_ by omega),Dw (by omega)]
   by_cases hlt2:a[i]<b[i]+c
   .refine Ao ?_
    rw[Ac hlt2,Ac hlt2]at h1;rw[Ac hlt2,Ac hlt2];rw[show (4294967296:Int)=((4294967296:Nat):Int) from rfl,Dw (by omega),show c+b[i]=b[i]+c by omega,Ig (by omega) (by omega),BT (by omega),hf,hb1,e3];refine Af ?_;refine Af ?_;refine Aa h1 ?_;rfl
   .refine Am ?_
    rw[Ad hlt2,Ad hlt2]at h1;rw[Ad hlt2,Ad hlt2];rw[show c+b[i]=b[i]+c by omega,Ig (by omega) (by omega),BT (by omega),hf,hb1,e3];refine Af ?_;refine Af ?_;refine Aa h1 ?_;rfl
  .have hd:(b.drop i).headD 0=0:=by rw[ο (by omega)];rfl
   rw[hd]at h1;rw[hd];refine Am ?_;rw[Cf (show a[i]<_ by omega)];rw[AvW]at h1;simp only[show (0:Nat)+c=c by omega]
   by_cases hlt2:a[i]<c
   .refine Ao ?_
    rw[Ac hlt2,Ac hlt2]at h1;rw[Ac hlt2,Ac hlt2];rw[show (4294967296:Int)=((4294967296:Nat):Int) from rfl,Dw (by omega),Ig (by omega) (by omega),BT (by omega),hf,hb1,e3];refine Af ?_;refine Af ?_;refine Aa h1 ?_;rfl
   .refine Am ?_
    rw[Ad hlt2,Ad hlt2]at h1;rw[Ad hlt2,Ad hlt2];rw[Ig (by omega) (by omega),BT (by omega),hf,hb1,e3];refine Af ?_;refine Af ?_;refine Aa h1 ?_;rfl
def O4(x y:Nat):AV:=if y<=x then .tup [eN (AY (x-y)),bv U] else .tup [eN [],bv Θ]
theorem Ac0{a b:Al}(hsa:CS a)(ha:Limbs a)(hsb:CS b)(hb:Limbs b):D.ask (.fn 150) [eN a,eN b] []=V (O4 (As a) (As b),[]):=by
 have s1:=Ic ha hsa;have s2:=Ic hb hsb;refine Aq K UW (As3 ..) ?_;refine Aa (Fu K hsa ha) ?_;simp only[eN,Ae];refine Aa (Fu K hsb hb) ?_;simp only[eN,Ae,Aj];have gc:=WP K s1 (AF _) s2 (AF _);rw[A1,A1]at gc;refine Aa gc ?_;simp only[Ae];generalize As a=x at *;generalize As b=y at *;unfold O4;unfold CS at s1 s2
 by_cases h1:x<y
 .rw[show DX x y=-1 by unfold DX;rw[Ac h1]]
  refine Ao ?_ (by decide);rw[Ad (by omega)];rfl
 .refine Am ?_ (by unfold DX;rw[Ad h1];split<;>omega)
  rw[Ac (by omega)];have hle:(AY y).length<=(AY x).length:=by
   by_cases h:(AY x).length<(AY y).length
   .have:=OZ h;omega
   .omega
  rw[AL (n:=(AY x).length) (b:=4) (by omega) (by omega)];refine Af ?_;have g:=Anw K (AY y) (AF y) (AY x) (AF x) s1 (AY x).length 0 [] 0 (by omega) (by omega) (by omega) (by simp;omega);refine Aa g ?_;simp only[Ae,κ,AvV];rw[AK A9 _ (by omega)];refine Af ?_;rw[By A9 _ rfl];have gt:=Hr K C (l:=Im 0 (AY x) (AY y)) (by unfold CS;rw[Mm];exact s1) (In _ _ _ (AF _) (AF _) (by omega));rw[WB (AF _) (AF _) hle (by rw[A1,A1];omega),A1,A1]at gt;refine Aa gt ?_;rfl
end
def eC(n:Nat):AV:=.v (.int .u32 (n:Int))
theorem Ij:∀ l:Al,Av eL l=l.map eC
 |[]=>rfl
 |x::r=>by
  have ih:=Ij r;unfold Av at ih ⊢;rw[List.flatMap_cons,ih];rfl
theorem Sg(l:Al)(i v:Nat)(h:i<l.length):Bv (Av eL l) (0+i*1) [.v (.int .u32 (v:Int))]=Av eL (l.set i v):=by
 rw[Ij,Ij,Axm,Ac h];unfold Bv;simp only[AvW,AxO,List.map_append,List.map_cons,AyR,List.map_drop,Awo];rw[AvO];rfl
theorem Agl(l:Al)(i:Nat)(h:i<l.length)(k:Ab->KR):Gf (Av eL l) (0+i*1) 1 k=k [.v (.int .u32 (l[i]:Int))]:=by
 have hx:(Av eL l)[i]? = V (.v (.int .u32 (l[i]:Int))):=by
  rw[Ij,List.getElem?_map,Ω h];rfl
 obtain⟨hl,hx⟩:=List.getElem?_eq_some_iff.1 hx;unfold Gf;have:AvL (0+i*1+1) (Av eL l).length=U:=by simp;omega
 rw[this];simp only[AvW,AxO];rw[ω hl,hx];rfl
theorem Ahv(n:Nat):Cr [.v (.int .u32 0)] (n*1)=Av eL (AxL n 0):=by
 rw[Ij,AxO];unfold Cr;rw[List.map_replicate];refine List.ext_getElem (by simp) λi h1 h2=>?_
 simp[AyW,eC]
theorem RS:∀(x:Nat) (b o:Al) (c:Nat),(PG x c b o).drop (b.length+1)=o.drop (b.length+1)
 |x,[],o,c=>by
  rw[PG]
  cases o<;>simp
 |x,y::b,o,c=>by
  rw[PG,ε,List.drop_succ_cons,RS x b o.tail]
  cases o with
  |nil=>simp
  |cons z o=>rfl
def IN(j:Nat)(l:Al):Prop:=∀ y∈l.drop j,y=0
theorem AcP{j:Nat}{l:Al}(h:IN j l):(l.drop j).headD 0=0:=by
 unfold IN at h
 cases e:l.drop j with
 |nil=>rfl
 |cons z r=>
  rw[e]at h;exact h z (AvX ..)
theorem Cl{a b:Nat}(h:a<b):Nat.blt a b=U:=by simpa using h
section
variable {D:Orc} (K:Knows Ak NV D)
include K
theorem Acb(a b:Al)(hb:Limbs b)(i:Nat)(hi:i<a.length)(hsz:a.length+b.length<=1000000000)(x:Nat)(hx:x<4294967296):∀(m k:Nat) (out:Al) (c:Nat),b.length-k=m->k<=b.length->Limbs out->c<4294967296->out.length=a.length+b.length->
  ∃(o:Al) (c':Nat),D.ask (.lp 282 1) [eN b,.sl 0 0 out.length 1,iv (i:Int),.v (.int .u32 (x:Int)),.v (.int .u64 (c:Int)),eN a,iv (a.length:Int),iv (i:Int),eN b,iv (b.length:Int),iv (k:Int)] [Ψ (Av eL out) U U]
   = V (.tup [iv 2,eN b,.sl 1 0 out.length 1,iv (i:Int),.v (.int .u64 (c':Int)),eN a,iv (a.length:Int),iv (i:Int)],[.del,.set (Ψ (Av eL o) U U)])
   ∧ c'<4294967296/\Limbs o/\o.length=out.length/\o.set (i+b.length) c'=out.take (i+k)++PG x c (b.drop k) (out.drop (i+k)):=by
 intro m
 induction m with
 |zero=>
  intro k out c hm hk ho hc hlen;obtain rfl:k=b.length:=by omega
  refine⟨out,c,?_,hc,ho,rfl,?_⟩
  .refine Ax K NH (Aed ..) ?_
   refine Am ?_;rfl
  .rw[List.drop_length,PG,Axm,Ac (by omega),AxB]
 |succ m ih=>
  intro k out c hm hk ho hc hlen;have hlt:k<b.length:=by omega
  have hik:i+k<out.length:=by omega
  have hy:=hb.get hlt;have hz:=ho.get hik;have hp:=PI hx hy;have hd:(out.drop (i+k)).headD 0=out[i+k]:=by rw[ω hik];rfl
  obtain⟨o,c',h1,h2,h3,h4,h5⟩:=ih (k+1) (out.set (i+k) ((x*b[k]+out[i+k]+c) % 4294967296)) ((x*b[k]+out[i+k]+c) / 4294967296) (by omega) (by omega)
   (λz hz'=>by
    rcases List.mem_or_eq_of_mem_set hz' with h|h
    .exact ho z h
    .rw[h];exact Axg _ (by omega)) (by omega) (by rw[Awf];exact hlen)
  rw[Awf]at h1 h4;refine⟨o,c',?_,h2,h3,h4,?_⟩
  .refine Ax K NH (Aed ..) ?_
   refine Ao ?_;rw[AA,Az (Ω hlt)];simp only[eL,Hw,Ae];rw[Anz (by omega),AA,Cl hik];refine Af ?_;refine(Agl out _ hik _).trans ?_;simp only[Hw,Ae];rw[AA,Cl hik];refine Af ?_;rw[show AvL (0+(i+k)*1+1) (Av eL out).length=U by rw[BK A9];simp;omega];refine Af ?_;refine Am ?_ (by decide);rw[Cf (show x<_ by omega),Cf (show b[k]<_ by omega),Cf (show out[i+k]<_ by omega),TA (by omega),Dw (by omega),Dw (by omega),F6,LY,Sg _ _ _ hik,Bn (by omega)];refine Aa h1 ?_;rfl
  .rw[h5,ω hlt,PG,hd]
   have e1:AvG (i+(k+1)) (out.set (i+k) ((x*b[k]+out[i+k]+c) % 4294967296))=out.take (i+k)++[(x*b[k]+out[i+k]+c) % 4294967296]:=by
    rw[show i+(k+1)=i+k+1 by omega,AwG (by rw[Awf];exact hik),List.getElem_set_self,List.take_set_of_le (η _)]
   have e2:AvI (i+(k+1)) (out.set (i+k) ((x*b[k]+out[i+k]+c) % 4294967296))=(out.drop (i+k)).tail:=by
    rw[List.drop_set_of_lt (by omega),AxB];rfl
   rw[e1,e2,AvO];rfl
theorem Acd(a b:Al)(ha:Limbs a)(hb:Limbs b)(hsz:a.length+b.length<=1000000000):∀(m i:Nat) (out:Al),a.length-i=m->i<=a.length->Limbs out->out.length=a.length+b.length->IN (i+b.length) out->
  ∃ o:Al,D.ask (.lp 282 0) [eN b,.sl 0 0 out.length 1,eN a,iv (a.length:Int),iv (i:Int)] [Ψ (Av eL out) U U]=V (.tup [iv 0,.sl 1 0 o.length 1],[.del,.set (Ψ (Av eL o) U U)])
   ∧ Limbs o/\o.length=out.length/\As o=As out+4294967296 ^ i*As (a.drop i)*As b:=by
 intro m
 induction m with
 |zero=>
  intro i out hm hi ho hlen hz;refine⟨out,?_,ho,rfl,?_⟩
  .refine Ax K NH (Aec ..) ?_
   refine Am ?_;rfl
  .rw[show a.drop i=[] from ο (by omega)]
   simp[As]
 |succ m ih=>
  intro i out hm hi ho hlen hz;have hlt:i<a.length:=by omega
  have hx:=ha.get hlt;obtain⟨o,c',g1,g2,g3,g4,g5⟩:=Acb K a b hb i hlt hsz a[i] hx b.length 0 out 0 (by omega) (by omega) ho (by omega) hlen;rw[Awr,κ]at g5;have hdl:(out.drop i).length=a.length+b.length-i:=by rw[List.length_drop];omega
  have hlm:Limbs (o.set (i+b.length) c'):=by
   rw[g5];exact RE (ho.take i) (PH _ _ _ _ hx hb (ho.drop i) (by omega))
  have hhead:((out.drop i).drop b.length).headD 0=0:=by
   rw[AxJ];exact AcP hz
  have hv:As (o.set (i+b.length) c')=As out+4294967296 ^ i*(a[i]*As b):=by
   rw[g5,Gc,Sr _ _ _ _ hhead];have e:As out=As (out.take i)+4294967296 ^ i*As (out.drop i):=by
    have:=Gc (out.take i) (out.drop i);rw[List.take_append_drop,Av6,AwM (by omega)]at this;exact this
   rw[e,Av6,AwM (by omega),Awr,Ax0];omega
  have hz2:IN (i+1+b.length) (o.set (i+b.length) c'):=by
   unfold IN;rw[g5,Ayb,ο (by rw[Av6];omega),AvV,Av6,AwM (by omega),show i+1+b.length-i=b.length+1 by omega,RS,AxJ];intro y hy;exact hz y (by
    have:AvI (i+(b.length+1)) out=AvI 1 (AvI (i+b.length) out):=by rw[AxJ];rfl
    rw[this]at hy;exact AwE hy)
  obtain⟨o2,k1,k2,k3,k4⟩:=ih (i+1) (o.set (i+b.length) c') (by omega) (by omega) hlm (by rw[Awf,g4,hlen]) hz2;rw[Awf,g4]at k1 k3;refine⟨o2,?_,k2,k3,?_⟩
  .refine Ax K NH (Aec ..) ?_
   refine Ao ?_;rw[AA,Az (Ω hlt)];simp only[eL,Hw,Aj,Ae];refine Aa g1 ?_;simp only[eN,Hw,Aj,Ae];rw[Anz (by omega),AA,Cl (by omega)];refine Af ?_;rw[show AvL (0+(i+b.length)*1+1) (Av eL o).length=U by rw[BK A9];simp;omega];refine Af ?_;rw[BT g2,Sg _ _ _ (by omega),Bn (by omega)];refine Aa k1 ?_;rfl
  .rw[k4,hv,ω hlt,As,AwS]
   have e1:4294967296 ^ i*(a[i]+4294967296*As (AvI (i+1) a))*As b=4294967296 ^ i*(a[i]*As b)+4294967296 ^ i*4294967296*As (AvI (i+1) a)*As b:=by
    rw[Ax0,Aws,Axd _ a[i],Axd (4294967296 ^ i) 4294967296]
   rw[e1];omega
variable (C:CloneF D)
include C
theorem Ace{a b:Al}(ha:Limbs a)(hb:Limbs b)(hsz:a.length+b.length<=1000000000):D.ask (.fn 282) [eN a,eN b] []=V (eN (AY (As a*As b)),[]):=by
 obtain⟨o,k1,k2,k3,k4⟩:=Acd K a b ha hb hsz a.length 0 (AxL (a.length+b.length) 0) (by omega) (by omega) (λx hx=>by rw[(Ayt.1 hx).2];omega) (by simp) (λy hy=>(Ayt.1 (AwE hy)).2);rw[List.length_replicate]at k1 k3;have hz:∀ n,As (AxL n 0)=0:=λn=>by
  induction n with
  |zero=>rfl
  |succ n ih=>rw[List.replicate_succ,As,ih]
 rw[hz,κ,Nat.pow_zero,Nat.one_mul,AvW]at k4;refine Aq K NH (Auh ..) ?_;rw[Aj,Aj,Anz (by omega)];simp only[AA];rw[show AvL (a.length+b.length) (a.length+b.length)=U by simp,AL (n:=a.length+b.length) (b:=4) (by omega) (by omega),Ahv];refine Af ?_;refine Af ?_;refine Aa k1 ?_;simp only[Ae];rw[AK A9 _ (by omega)];refine Af ?_;rw[By A9 _ rfl];have gt:=Hr K C (l:=o) (by unfold CS;omega) k2;rw[k4]at gt;refine Aa gt ?_;rfl
theorem Anv{a b:Al}(hsa:a.length<=400000000)(ha:Limbs a)(hsb:b.length<=400000000)(hb:Limbs b)(h24:a.length<24\/b.length<24):D.ask (.fn 275) [eN a,eN b] []=V (eN (AY (As a*As b)),[]):=by
 have t1:(AY (As a)).length<=a.length:=by rw[I7 a ha];exact Er a
 have t2:(AY (As b)).length<=b.length:=by rw[I7 b hb];exact Er b
 refine Aq K AlR (Aub ..) ?_;refine Aa (Fu K (by unfold CS;omega) ha) ?_;simp only[eN,Ae];refine Aa (Fu K (by unfold CS;omega) hb) ?_;simp only[eN,Ae,Aj];have g:=Ace K C (AF (As a)) (AF (As b)) (by omega);rw[A1,A1]at g
 by_cases h1:(AY (As a)).length<24
 .refine Ao ?_
  refine Aa g ?_;rfl
 .refine Am ?_
  refine Ao ?_;refine Aa g ?_;rfl
end
section
variable {D:Orc} (K:Knows Ak NV D) (Z:Knows Ak Ws D) (C:CloneF D)
include K Z C
theorem Gn(neg:Bool){a:Al}(ha:Limbs a)(hs:CS a):D.ask (.fn 145) [bv neg,eN a] []=V (.agg (eZ (A3 (Ez neg (As a)))),[]):=by
 refine Aq Z Ala (AsY ..) ?_;refine Aa (Hr K C hs ha) ?_;simp only[eN,Ae,Aj];rw[Aaw];unfold eZ eN
 cases neg with
 |false=>rfl
 |true=>
  refine Af ?_;refine Af ?_;refine Af ?_;have hp:=@Fq (As a)
  by_cases h:0<As a
  .refine Ao ?_ (by have:=hp.2 h;omega)
   rw[Ba h];rfl
  .refine Am ?_ (by intro e;exact h (hp.1 (by omega)))
   rw[Bu h];rfl
theorem Ado{z:Zi}(hz:Lz 1000000000 z):D.ask (.fn 209) [.agg (eZ z)] []=V (.agg (eZ (A3 (zv z))),[]):=by
 refine Aq Z Alz (AtD ..) ?_;refine Aa (Gn K Z C z.neg hz.lim hz.len) ?_;rfl
theorem Ako{z:Zi}(hz:Lz 1000000000 z):D.ask (.fn 86) [.agg (eZ z)] []=V (.agg (eZ (A3 (-zv z))),[]):=by
 have e:-zv z=Ez (!z.neg) (As z.abs):=by
  unfold zv Ez
  cases z.neg<;>simp
 rw[e];refine Aq Z AqT (e86 ..) ?_;rw[LX];have g:=λb=>Gn K Z C b hz.lim hz.len
 cases z.neg with
 |false=>
  refine Af ?_;refine Aa (g U) ?_;rfl
 |true=>
  refine Bm ?_;refine Aa (g Θ) ?_;rfl
theorem QC{z:Zi}(hz:Lz 1000000000 z):D.ask (.fn 158) [.agg (eZ z)] []=V (iv (Ds (zv z)),[]):=by
 refine Aq Z Ali (As9 ..) ?_;refine Aa (Ado K Z C hz) ?_;simp only[eZ,eN,Ae,Aj];unfold A3 Ds
 by_cases h:zv z<0
 .rw[Ac h,Ba h]
  rfl
 .rw[Ad h,Bu h]
  refine Bm ?_;have hp:=@Fq (zv z).natAbs
  by_cases h2:0<zv z
  .rw[Ac h2]
   refine Ao ?_ (by have:=hp.2 (by omega);dsimp only;omega);rfl
  .rw[Ad h2]
   refine Am ?_ (by dsimp only;intro e;have:=hp.1 (by omega);omega);rfl
theorem ApA(n:Int)(h1:-9223372036854775808<=n)(h2:n<9223372036854775808):D.ask (.fn 84) [iv n] []=V (.agg (eZ (A3 n)),[]):=by
 refine Aq Z AqR (e84 ..) ?_;have hl:∀ m:Nat,m<18446744073709551616->(AY m).length<=2:=λm h=>BR (by omega)
 by_cases h:n<0
 .refine Ao ?_ h
  have e1:Ai.add .i64 n 1=n+1:=Ha (by omega) (by omega);have e2:Ai.sub .i64 0 (n+1)=((n.natAbs-1:Nat):Int):=by rw[Hc (by omega) (by omega)];omega
  rw[e1,e2,Cf (by omega),show (1:Int)=((1:Nat):Int) from rfl,Dw (by omega),show n.natAbs-1+1=n.natAbs by omega];refine Aa (Akr K C n.natAbs (by omega)) ?_;simp only[eN,Ae];have g:=Gn K Z C U (AF n.natAbs) (by unfold CS;have:=hl n.natAbs (by omega);omega);rw[A1,show Ez U n.natAbs=n by unfold Ez;rw[Ac rfl];omega]at g;refine Aa g ?_;rfl
 .refine Am ?_ h
  obtain⟨m,rfl⟩:=Int.eq_ofNat_of_zero_le (show 0<=n by omega);rw[Cf (by omega)];refine Aa (Akr K C m (by omega)) ?_;simp only[eN,Ae];have g:=Gn K Z C Θ (AF m) (by unfold CS;have:=hl m (by omega);omega);rw[A1,show Ez Θ m=(m:Int) from rfl]at g;refine Aa g ?_;rfl
theorem Akm{a b:Zi}(ha:Lz 1000000000 a)(hb:Lz 1000000000 b):D.ask (.fn 285) [.agg (eZ a),.agg (eZ b)] []=V (iv (Gi (zv a) (zv b)),[]):=by
 refine Aq Z AlW (Auj ..) ?_;refine Aa (QC K Z C ha) ?_;simp only[Ae];refine Aa (QC K Z C hb) ?_;simp only[Ae];have g1:=WP K (a:=b.abs) (b:=a.abs) hb.len hb.lim ha.len ha.lim;have g2:=WP K (a:=a.abs) (b:=b.abs) ha.len ha.lim hb.len hb.lim;have na:=Ahw a;have nb:=Ahw b;have za:=Aax a;have zb:=Aax b;have va:zv a=Ez a.neg (As a.abs):=rfl;have vb:zv b=Ez b.neg (As b.abs):=rfl;unfold Ds
 by_cases h1:zv a<0
 .rw[Ac h1]
  rw[Ez,Ac (na.1 h1).1]at va
  by_cases h2:zv b<0
  .rw[Ac h2]
   rw[Ez,Ac (nb.1 h2).1]at vb;refine Am ?_ (by decide);refine Am ?_ (by decide);refine Ao ?_ (by decide);refine Aa g1 ?_;rw[show Gi (zv a) (zv b)=DX (As b.abs) (As a.abs) by
    unfold Gi DX;rw[va,vb]
    by_cases h3:As b.abs<As a.abs
    .rw[Ac (by omega),Ac h3]
    .rw[Ad (by omega),Ad h3]
     by_cases h4:As a.abs<As b.abs
     .rw[Ac (by omega),Ac h4]
     .rw[Ad (by omega),Ad h4]]
   rfl
  .rw[Ad h2]
   rw[show Gi (zv a) (zv b)=-1 by unfold Gi;rw[Ac (by omega)]]
   by_cases h3:0<zv b
   .rw[Ac h3];rfl
   .rw[Ad h3];rfl
 .rw[Ad h1]
  by_cases h2:zv b<0
  .rw[Ac h2]
   rw[show Gi (zv a) (zv b)=1 by unfold Gi;rw[Ad (by omega),Ac (by omega)]]
   by_cases h3:0<zv a
   .rw[Ac h3];rfl
   .rw[Ad h3];rfl
  .rw[Ad h2]
   have ea:zv a=(As a.abs:Int):=by
    by_cases h:0<As a.abs
    .rw[va,Ez,Ad (λe=>h1 (na.2 ⟨e,h⟩))]
    .rw[za.2 (by omega)];omega
   have eb:zv b=(As b.abs:Int):=by
    by_cases h:0<As b.abs
    .rw[vb,Ez,Ad (λe=>h2 (nb.2 ⟨e,h⟩))]
    .rw[zb.2 (by omega)];omega
   have ec:Gi (zv a) (zv b)=DX (As a.abs) (As b.abs):=by
    unfold Gi DX;rw[ea,eb]
    by_cases h3:As a.abs<As b.abs
    .rw[Ac (by omega),Ac h3]
    .rw[Ad (by omega),Ad h3]
     by_cases h4:As b.abs<As a.abs
     .rw[Ac (by omega),Ac h4]
     .rw[Ad (by omega),Ad h4]
   rw[ec]
   by_cases h3:0<zv a
   .rw[Ac h3]
    by_cases h4:0<zv b
    .rw[Ac h4]
     refine Am ?_ (by decide);refine Am ?_ (by decide);refine Am ?_ (by decide);refine Aa g2 ?_;rfl
    .rw[Ad h4]
     refine Am ?_ (by decide);refine Ao ?_ (by decide);rw[show DX (As a.abs) (As b.abs)=1 by unfold DX;rw[Ad (by omega),Ac (by omega)]]
   .rw[Ad h3]
    by_cases h4:0<zv b
    .rw[Ac h4]
     refine Ao ?_ (by decide);rw[show DX (As a.abs) (As b.abs)=-1 by unfold DX;rw[Ac (by omega)]]
    .rw[Ad h4]
     refine Am ?_ (by decide);refine Am ?_ (by decide);refine Am ?_ (by decide);refine Aa g2 ?_;rfl
theorem Akl{k:Nat}(hk:k<=900000000){a b:Zi}(ha:Lz k a)(hb:Lz k b):D.ask (.fn 87) [.agg (eZ a),.agg (eZ b)] []=V (.agg (eZ (A3 (zv a+zv b))),[]):=by
 have la:=ha.len;have lb:=hb.len;refine Aq Z AqU (e87 ..) ?_;have hfr:∀(neg:Bool) (n:Nat),n<4294967296 ^ (k+1)->D.ask (.fn 145) [bv neg,eN (AY n)] []=V (.agg (eZ (A3 (Ez neg n))),[]):=λneg n h=>by
  have:=Gn K Z C neg (AF n) (by unfold CS;have:=BR h;omega)
  rwa [A1]at this
 have ba:=Dc ha.lim;have bb:=Dc hb.lim;have pa:4294967296 ^ a.abs.length<=4294967296 ^ k:=Aw0 (by omega) la;have pb:4294967296 ^ b.abs.length<=4294967296 ^ k:=Aw0 (by omega) lb;have ps:4294967296 ^ (k+1)=4294967296 ^ k*4294967296:=AwS ..
 by_cases h:a.neg=b.neg
 .rw[PY,show (a.neg == b.neg)=U by simpa using h]
  refine Af ?_;refine Aa (Anq K C (by omega) ha.lim (by omega) hb.lim) ?_;simp only[eN,Ae];refine Aa (hfr a.neg (As a.abs+As b.abs) (by omega)) ?_;rw[show Ez a.neg (As a.abs+As b.abs)=zv a+zv b by
   unfold zv;rw[←h];unfold Ez;split<;>omega]
  rfl
 .rw[PY,show (a.neg == b.neg)=Θ by simpa using h]
  refine Bm ?_;have hop:zv a+zv b=Ez a.neg (As a.abs)+Ez (!a.neg) (As b.abs):=by
   unfold zv;have:b.neg = !a.neg:=by
    revert h
    cases a.neg<;>cases b.neg<;>simp
   rw[this]
  have g1:=Ac0 K C (a:=a.abs) (b:=b.abs) (by unfold CS;omega) ha.lim (by unfold CS;omega) hb.lim;have g2:=Ac0 K C (a:=b.abs) (b:=a.abs) (by unfold CS;omega) hb.lim (by unfold CS;omega) ha.lim;unfold O4 at g1 g2;refine Aa g1 ?_
  by_cases hle:As b.abs<=As a.abs
  .rw[Ac hle]
   simp only[eN,Ae];refine Aa (hfr a.neg (As a.abs-As b.abs) (by omega)) ?_;rw[show Ez a.neg (As a.abs-As b.abs)=zv a+zv b by
    rw[hop];unfold Ez
    cases a.neg<;>simp<;>omega]
   rfl
  .rw[Ad hle]
   rw[Ac (by omega)]at g2;simp only[eN,Ae];refine Aa g2 ?_;simp only[eN,Ae];refine Aa (hfr b.neg (As b.abs-As a.abs) (by omega)) ?_;rw[show Ez b.neg (As b.abs-As a.abs)=zv a+zv b by
    rw[hop];have:b.neg = !a.neg:=by
     revert h
     cases a.neg<;>cases b.neg<;>simp
    rw[this];unfold Ez
    cases a.neg<;>simp<;>omega]
   rfl
theorem Akn{k m:Nat}(hk:k<=400000000)(hkm:m<=400000000){a b:Zi}(ha:Lz k a)(hb:Lz m b)(h24:a.abs.length<24\/b.abs.length<24):D.ask (.fn 264) [.agg (eZ a),.agg (eZ b)] []=V (.agg (eZ (A3 (zv a*zv b))),[]):=by
 have la:=ha.len;have lb:=hb.len;refine Aq Z AlN (At6 ..) ?_;have hm:InB (k+m) (zv a*zv b):=ha.inb.mul hb.inb;have hab:(zv a*zv b).natAbs=As a.abs*As b.abs:=by
  have f:∀ z:Zi,(zv z).natAbs=As z.abs:=λz=>by
   unfold zv Ez;split
   .rw[Axo];rfl
   .rfl
  rw[AyN,f,f]
 unfold InB at hm;rw[hab]at hm;have hl:=BR hm;have hfr:∀(neg:Bool),D.ask (.fn 145) [bv neg,eN (AY (As a.abs*As b.abs))] []=V (.agg (eZ (A3 (Ez neg (As a.abs*As b.abs)))),[]):=λneg=>by
  have:=Gn K Z C neg (AF (As a.abs*As b.abs)) (by unfold CS;omega)
  rwa [A1]at this
 have g:=Anv K C (by omega) ha.lim (by omega) hb.lim h24;have hs:Ez (a.neg != b.neg) (As a.abs*As b.abs)=zv a*zv b:=by
  unfold zv Ez
  cases a.neg<;>cases b.neg<;>simp[Int.mul_neg,Int.neg_mul]
 rw[LX,PY]
 by_cases h:a.neg=b.neg
 .rw[show (!(a.neg == b.neg))=Θ by simp[h]]
  rw[show (a.neg != b.neg)=Θ by simp[h]]at hs;refine Bm ?_;refine Aa g ?_;simp only[eN,Ae];refine Aa (hfr Θ) ?_;rw[hs];rfl
 .rw[show (!(a.neg == b.neg))=U by simp[h]]
  rw[show (a.neg != b.neg)=U by simp[h]]at hs;refine Af ?_;refine Aa g ?_;simp only[eN,Ae];refine Aa (hfr U) ?_;rw[hs];rfl
end
def H9(c:UInt8):Bool:=decide (48<=c.toNat)&&decide (c.toNat<=57)
theorem AdA{c:UInt8}(h:H9 c=U):c.toNat-48<=9:=by
 have h2:=(AxD.1 h);have h4:=of_decide_eq_true h2.2;omega
theorem Ap0{c:UInt8}(h:H9 c=U):48<=c.toNat/\c.toNat<=57:=by
 have h2:=(AxD.1 h);exact⟨of_decide_eq_true h2.1,of_decide_eq_true h2.2⟩
theorem Ap1{c:UInt8}(h:H9 c=Θ):c.toNat<48\/¬ c.toNat<48/\57<c.toNat:=by
 by_cases h1:c.toNat<48
 .exact .inl h1
 .refine .inr ⟨h1,?_⟩
  by_cases h2:57<c.toNat
  .exact h2
  .unfold H9 at h
   rw[Ba (by omega),Ba (by omega)]at h
   cases h
theorem Anm{c:UInt8}(h:48<=c.toNat/\c.toNat<=57):Ai.sub .u8 (c.toNat:Int) 48=((c.toNat-48:Nat):Int):=by
 show IntKind.u8.wrap ((c.toNat:Int)-48)=_
 rw[IntKind.wrap_u8];omega
def hor(v:Nat)(l:List UInt8):Nat:=l.foldl (λv c=>v*10+(c.toNat-48)) v
theorem Pm(v:Nat)(c:UInt8)(l:List UInt8):hor v (c::l)=hor (v*10+(c.toNat-48)) l:=by
 unfold hor;exact Axu ..
theorem XM:∀(l:List UInt8) {v i:Nat},l.all H9=U->v<4294967296 ^ i->hor v l<4294967296 ^ (i+l.length)
 |[],v,i,_,hv=>hv
 |c::l,v,i,h,hv=>by
  rw[Axc,AxD]at h;have h1:=AdA h.1;have:=XM l (v:=v*10+(c.toNat-48)) (i:=i+1) h.2 (by rw[AwS];omega);rw[Pm,ε,show i+(l.length+1)=i+1+l.length by omega];exact this
theorem Hb{s:ByteArray}{i:Nat}(h:i<s.size):Ai.sat s i=((s.data.toList[i]'(by simpa using h)).toNat:Int):=by
 show (match s[i]? with|some c=>Int.ofNat c.toNat|none=>0)=_
 rw[getElem?_pos s i h];rfl
def ScN(q:Nat):Prop:=q=1\/q=10\/q=100\/q=1000\/q=10000\/q=100000\/q=1000000\/q=10000000\/q=100000000
theorem ScN.next{q:Nat}(h:ScN q):q=100000000\/q<100000000/\ScN (q*10):=by
 unfold ScN at *;omega
theorem ScN.le{q:Nat}(h:ScN q):1<=q/\q<=100000000:=by
 unfold ScN at h;omega
theorem Vj(v q p d:Nat):v*(q*10)+(p*10+d)=(v*q+p)*10+d:=by
 rw[Aws,Axd];omega
theorem NT:∀(m c:Nat) (a:Al),(Eo m c a).length=a.length+1
 |_,_,[]=>rfl
 |m,c,x::a=>by rw[Eo,ε,NT,ε]
section
variable {D:Orc} (K:Knows Ak NV D)
include K
theorem AaX{c:UInt8}(h:H9 c=U):D.ask (.fn 202) [.v (.int .u8 (c.toNat:Int))] []=V (.tup [.v (.int .u32 ((c.toNat-48:Nat):Int)),bv U],[]):=by
 have h2:=(AxD.1 h);have h3:=of_decide_eq_true h2.1;have h4:=of_decide_eq_true h2.2;refine Aq K AeL (Aqe ..) ?_;refine CL ?_;refine CL ?_;rw[show Ai.sub .u8 (c.toNat:Int) 48=((c.toNat-48:Nat):Int) from by
  show IntKind.u8.wrap ((c.toNat:Int)-48)=_
  rw[IntKind.wrap_u8];omega,BT (by omega)]
theorem AdB{c:UInt8}(h:H9 c=Θ):∃ x:Int,D.ask (.fn 202) [.v (.int .u8 (c.toNat:Int))] []=V (.tup [.v (.int .u32 x),bv Θ],[]):=by
 refine⟨Ai.conv .u32 (Ai.sub .u8 (c.toNat:Int) 48),K.fn' AeL _ rfl ((Aqe ..).trans ?_)⟩
 by_cases h1:48<=c.toNat
 .refine CL ?_
  refine(Adk ?_).trans rfl;intro h2;unfold H9 at h;rw[Ba h1,Ba (by omega)]at h
  cases h
 .exact C7 rfl
theorem Aim{a:Al}(ha:Limbs a)(hs:a.length<=999999999)(m:Nat)(hm:m<4294967296):∀(k i:Nat) (out:Al) (c:Nat),a.length-i=k->i<=a.length->c<4294967296->out.length=i->
  ∃(o:Al) (c':Nat),D.ask (.lp 203 0) [.v (.int .u32 (m:Int)),.sl 0 0 out.length 1,.v (.int .u64 (c:Int)),eN a,iv (a.length:Int),iv (i:Int)] [Ψ (Av eL out) U U]
   = V (.tup [iv 0,.sl 1 0 o.length 1,.v (.int .u64 (c':Int))],[.del,.set (Ψ (Av eL o) U U)])/\c'<4294967296/\o++[c']=out++Eo m c (a.drop i):=by
 intro k
 induction k with
 |zero=>
  intro i out c hi hle hc ho;refine⟨out,c,?_,hc,?_⟩
  .refine Ax K Rx (AdR ..) ?_
   refine Am ?_;rfl
  .rw[show a.drop i=[] from ο (by omega)]
   rfl
 |succ k ih=>
  intro i out c hi hle hc ho;have hlt:i<a.length:=by omega
  have hx:=ha.get hlt;have hp:=PI hx hm;obtain⟨o,c',h1,h2,h3⟩:=ih (i+1) (out++[(a[i]*m+c) % 4294967296]) ((a[i]*m+c) / 4294967296) (by omega) (by omega) (by omega) (by simp;omega);refine⟨o,c',?_,h2,?_⟩
  .refine Ax K Rx (AdR ..) ?_
   refine Ao ?_;rw[AA,Az (Ω hlt)];simp only[eL,Hw,Ae];have hf:AU (out.length+1) 4=U:=AL (by omega) (by omega);have hb1:AvL (0+out.length*1) (Av eL out).length=U:=AK A9 out (by omega);have e3:∀ s:Nat,AvI 0 (AvG (0+out.length*1) (Av eL out))++[.v (.int .u32 (s:Int))]=Av eL (out++[s]):=λs=>by
    rw[κ,A0 A9 out (by omega)];exact AW eL out s
   rw[ζ,Awo]at h1;rw[Cf (show a[i]<_ by omega),Cf (show m<_ by omega),TA (by omega),Dw (by omega),F6,LY,Bn (by omega),hf,hb1,e3];refine Af ?_;refine Af ?_;refine Am ?_ (by decide);refine Aa h1 ?_;rfl
  .rw[h3,ω hlt,Eo,AvO]
   rfl
theorem Zd{a:Al}(ha:Limbs a)(hs:a.length<=999999999){m:Nat}(hm:m<4294967296){c:Nat}(hc:c<4294967296):∃ L:Al,D.ask (.fn 203) [eN a,.v (.int .u32 (m:Int)),.v (.int .u32 (c:Int))] []=V (eN L,[])/\Limbs L/\As L=As a*m+c/\L.length<=a.length+1:=by
 obtain⟨o,c',g,hc',ho⟩:=Aim K ha hs m hm a.length 0 [] c (by omega) (by omega) hc rfl;rw[AvV,κ]at ho;have hol:o.length=a.length:=by
  have:=congrArg AyC ho;rw[ζ,NT]at this;simpa using this
 have hL:=Il m a c hm ha hc;have hV:=Js m a c;rw[←ho]at hL hV
 by_cases h0:c'=0
 .subst h0
  refine⟨o,?_,λx hx=>hL x (List.mem_append_left _ hx),?_,by omega⟩
  .refine Aq K Rx (Aqf ..) ?_
   rw[Aj,Bn (by omega),AA,AL (by omega) (by omega)];refine Af ?_;rw[Cf (show c<_ by omega)];refine Aa g ?_;simp only[Hw,Ae];refine Am ?_;rw[AK A9 o (by omega)];refine Af ?_;rw[A0 A9 o rfl,Dk A9 o];rfl
  .rw[←hV,Gc]
   simp[As]
 .refine⟨o++[c'],?_,hL,hV,by simp;omega⟩
  refine Aq K Rx (Aqf ..) ?_;rw[Aj,Bn (by omega),AA,AL (by omega) (by omega)];refine Af ?_;rw[Cf (show c<_ by omega)];refine Aa g ?_;simp only[Hw,Ae];refine Ao ?_;rw[BT hc'];have e3:AvI 0 (AvG (0+o.length*1) (Av eL o))++[.v (.int .u32 (c':Int))]=Av eL (o++[c']):=by
   rw[κ,A0 A9 o (by omega)];exact AW eL o c'
  rw[AL (n:=o.length+1) (b:=4) (by omega) (by omega),AK A9 o (by omega),e3,AK A9 (o++[c']) (by simp)];refine Af ?_;refine Af ?_;refine Af ?_;rw[κ,A0 A9 (o++[c']) (by simp),show Bo (o.length+1) 1 (Av eL (o++[c']))=(o++[c']).map eL from by have:=Dk A9 (o++[c']);rwa [ζ]at this];rfl
def ApL(x:AV)(L:Al):Prop:=x=eN L\/(x=.v (.slice none 0 0)/\L=[])
set_option maxHeartbeats 4000000 in
theorem AbB{s:ByteArray}(hs:s.size<=4000):∀(m i:Nat) (x:AV) (L:Al) (p q:Nat),s.size-i=m->i<=s.size->ApL x L->Limbs L->L.length<=i->p<q->ScN q->
  ((s.data.toList.drop i).all H9=U->∃(L':Al) (p' q':Nat),D.ask (.lp 148 0) [sv s,x,.v (.int .u32 (p:Int)),.v (.int .u32 (q:Int)),iv (s.size:Int),iv (i:Int)] []=V (.tup [iv 1,eN L',.v (.int .u32 (p':Int)),.v (.int .u32 (q':Int))],[])
    ∧ Limbs L'/\L'.length<=s.size/\p'<q'/\ScN q'/\As L'*q'+p'=hor (As L*q+p) (s.data.toList.drop i))
  ∧ ((s.data.toList.drop i).all H9=Θ->D.ask (.lp 148 0) [sv s,x,.v (.int .u32 (p:Int)),.v (.int .u32 (q:Int)),iv (s.size:Int),iv (i:Int)] []=V (.tup [bv U,.ls [],iv 20],[])):=by
 intro m;have hsl:s.data.toList.length=s.size:=by simp
 induction m with
 |zero=>
  intro i x L p q hm hi hx hL hLl hp hq;have e:s.data.toList.drop i=[]:=ο (by omega);rw[e];refine⟨λ_=>⟨L,p,q,?_,hL,by omega,hp,hq,rfl⟩,λh=>by cases h⟩;rcases hx with rfl|⟨rfl,rfl⟩
  .refine Ax K Ix (SW ..) ?_
   exact Am rfl
  .refine Ax K Ix (Oo ..) ?_
   exact Am rfl
 |succ m ih=>
  intro i x L p q hm hi hx hL hLl hp hq;have hlt:i<s.size:=by omega
  have hlt':i<s.data.toList.length:=by omega
  have e:s.data.toList.drop i=s.data.toList[i]::s.data.toList.drop (i+1):=ω hlt';rw[e,Axc];have hq1:=hq.le
  cases hd:H9 s.data.toList[i]with
  |false=>
   refine⟨λh=>by simp at h,λ_=>?_⟩;obtain⟨z,hz⟩:=AdB K hd;rcases hx with rfl|⟨rfl,rfl⟩
   .refine Ax K Ix (SW ..) ?_
    refine Ao ?_;rw[AA,BE,Cl hlt];refine Af ?_;rw[Hb hlt];refine Aa hz ?_;simp only[Hw,Ae];rfl
   .refine Ax K Ix (Oo ..) ?_
    refine Ao ?_;rw[AA,BE,Cl hlt];refine Af ?_;rw[Hb hlt];refine Aa hz ?_;simp only[Hw,Ae];rfl
  |true=>
   have hy:=AaX K hd;have hdd:=AdA hd;rw[AvR,Pm];rcases hq.next with h8|⟨h8,hq2⟩
   .obtain⟨L2,g,hL2,hV2,hl2⟩:=Zd K hL (by omega) (m:=q*10) (by omega) (c:=p*10+(s.data.toList[i].toNat-48)) (by omega)
    have ih':=ih (i+1) (eN L2) L2 0 1 (by omega) (by omega) (.inl rfl) hL2 (by omega) (by omega) (.inl rfl);rw[show As L2*1+0=(As L*q+p)*10+(s.data.toList[i].toNat-48) by rw[AxO,Awr,hV2,Vj]]at ih';have key:∀ r,((∃(l:Al) (a b:Nat),r=AV.tup [iv 1,eN l,.v (.int .u32 (a:Int)),.v (.int .u32 (b:Int))])\/r=.tup [bv U,.ls [],iv 20])->D.ask (.lp 148 0) [sv s,eN L2,.v (.int .u32 ((0:Nat):Int)),.v (.int .u32 ((1:Nat):Int)),iv (s.size:Int),iv ((i+1:Nat):Int)] []=V (r,[])->D.ask (.lp 148 0) [sv s,x,.v (.int .u32 (p:Int)),.v (.int .u32 (q:Int)),iv (s.size:Int),iv (i:Int)] []=V (r,[]) :=λr hr h1=>by
     rcases hx with rfl|⟨rfl,rfl⟩
     case' inl=>refine Ax K Ix (SW ..) ?_
     case' inr=>refine Ax K Ix (Oo ..) ?_
     all_goals
      refine Ao ?_;rw[AA,BE,Cl hlt];refine Af ?_;rw[Hb hlt];refine Aa hy ?_;simp only[Hw,Ae];refine Bm ?_;rw[show (10:Int)=((10:Nat):Int) from rfl,Oz,Oz,Z7,Axe (show q*10<4294967296 by omega),Axe (show p*10<4294967296 by omega),Axe (show p*10+(s.data.toList[i].toNat-48)<4294967296 by omega),Bn (by omega)];refine Aw ?_;refine Aa g ?_;simp only[eN,Ae];refine Aa h1 ?_;rcases hr with⟨l,a,b,rfl⟩|rfl<;>rfl
    exact⟨λh=>(ih'.1 h).elim λL' h=>h.elim λp' h=>h.elim λq' h=>⟨L',p',q',key _ (.inl ⟨_,_,_,rfl⟩) h.1,h.2⟩,λh=>key _ (.inr rfl) (ih'.2 h)⟩
   .have ih':=ih (i+1) x L (p*10+(s.data.toList[i].toNat-48)) (q*10) (by omega) (by omega) hx hL (by omega) (by omega) hq2
    rw[Vj]at ih';have key:∀ r,((∃(l:Al) (a b:Nat),r=AV.tup [iv 1,eN l,.v (.int .u32 (a:Int)),.v (.int .u32 (b:Int))])\/r=.tup [bv U,.ls [],iv 20])->D.ask (.lp 148 0) [sv s,x,.v (.int .u32 ((p*10+(s.data.toList[i].toNat-48):Nat):Int)),.v (.int .u32 ((q*10:Nat):Int)),iv (s.size:Int),iv ((i+1:Nat):Int)] []=V (r,[])->D.ask (.lp 148 0) [sv s,x,.v (.int .u32 (p:Int)),.v (.int .u32 (q:Int)),iv (s.size:Int),iv (i:Int)] []=V (r,[]) :=λr hr h1=>by
     rcases hx with rfl|⟨rfl,rfl⟩
     case' inl=>refine Ax K Ix (SW ..) ?_
     case' inr=>refine Ax K Ix (Oo ..) ?_
     all_goals
      refine Ao ?_;rw[AA,BE,Cl hlt];refine Af ?_;rw[Hb hlt];refine Aa hy ?_;simp only[Hw,Ae];refine Bm ?_;rw[show (10:Int)=((10:Nat):Int) from rfl,Oz,Oz,Z7,Axe (show q*10<4294967296 by omega),Axe (show p*10<4294967296 by omega),Axe (show p*10+(s.data.toList[i].toNat-48)<4294967296 by omega),Bn (by omega)];refine Ap ?_;refine Aa h1 ?_;rcases hr with⟨l,a,b,rfl⟩|rfl<;>rfl
    exact⟨λh=>(ih'.1 h).elim λL' h=>h.elim λp' h=>h.elim λq' h=>⟨L',p',q',key _ (.inl ⟨_,_,_,rfl⟩) h.1,h.2⟩,λh=>key _ (.inr rfl) (ih'.2 h)⟩
def IG(s:ByteArray):Al × Int:=
 if 4000<s.size then([],2) else if s.size=0 then([],20) else if s.data.toList.all H9=U then(AY (hor 0 s.data.toList),0) else([],20)
variable (C:CloneF D)
include C
theorem AbC(s:ByteArray):D.ask (.fn 148) [sv s] []=V (.tup [eN (IG s).1,iv (IG s).2],[]):=by
 refine Aq K Ix (As1 ..) ?_;unfold IG;rw[BE]
 by_cases h1:4000<s.size
 .rw[Ac h1]
  exact Ao rfl
 rw[Ad h1];refine Am ?_
 by_cases h2:s.size=0
 .rw[Ac h2]
  have h3:s=ByteArray.empty:=by simpa using h2
  exact CI (by rw[h3];rfl) rfl
 rw[Ad h2];refine(Dt (λh=>h2 (by rw[h];rfl))).trans ?_;have g:=AbB K (s:=s) (by omega) s.size 0 (.v (.slice none 0 0)) [] 0 1 (by omega) (by omega) (.inr ⟨rfl,rfl⟩) Ch (by simp) (by omega) (.inl rfl);rw[κ]at g
 by_cases h3:s.data.toList.all H9=U
 .rw[Ac h3]
  obtain⟨L',p',q',h4,hL,hl,hp,hq,hv⟩:=g.1 h3;have hq1:=hq.le;obtain⟨L2,g2,hL2,hV2,hl2⟩:=Zd K hL (by omega) (m:=q') (by omega) (c:=p') (by omega);refine Aa h4 ?_;simp only[eN,Hw,Ae];refine Af ?_;refine Aa g2 ?_;simp only[eN,Ae];refine Aa (Hr K C (by unfold CS;omega) hL2) ?_;rw[hV2,hv];rfl
 .rw[Ad h3]
  refine Aa (g.2 (by simpa using h3)) ?_;rfl
end
theorem FW(s:ByteArray):Limbs (IG s).1:=by
 unfold IG;split
 .exact Ch
 split
 .exact Ch
 split
 .exact AF _
 .exact Ch
theorem Jc(s:ByteArray):(IG s).1.length<=4000:=by
 unfold IG;split
 .simp
 split
 .simp
 split
 .rename_i h1 h2 h3
  refine Nat.le_trans (BR (k:=s.size) ?_) (by omega);have:=XM s.data.toList h3 (v:=0) (i:=0) (by simp)
  rwa [AvW,show s.data.toList.length=s.size by simp]at this
 .simp
def N8(s:ByteArray):Prop:=1<=s.size/\s.extract 0 1=Ag [45]
instance (s:ByteArray):Decidable (N8 s):=by unfold N8;exact inferInstance
def IF(s:ByteArray):ByteArray × Bool:=if N8 s then(s.extract 1 s.size,U) else(s,Θ)
def E5(s:ByteArray):Zi × Int:=if(IG (IF s).1).2=0 then(A3 (Ez (IF s).2 (As (IG (IF s).1).1)),0) else(⟨Θ,[]⟩,(IG (IF s).1).2)
section
variable {D:Orc} (K:Knows Ak NV D) (Z:Knows Ak Ws D) (C:CloneF D)
include Z
theorem Aio(s:ByteArray):D.ask (.fn 241) [sv s,sv (Ag [45])] []=V (bv (decide (N8 s)),[]):=by
 refine Aq Z AlK (AtW ..) ?_;rw[BE,BE,show (Ag [45]).size=1 from rfl]
 by_cases h1:1<=s.size
 .refine CL ?_
  rw[show J1 0 1 s.size=U by unfold J1;simp;omega];refine Af ?_
  by_cases h2:s.extract 0 1=Ag [45]
  .rw[Ba (show N8 s from ⟨h1,h2⟩)]
   exact CI h2 rfl
  .rw[Bu (show ¬ N8 s from λh=>h2 h.2)]
   exact(Dt h2).trans rfl
 .rw[Bu (show ¬ N8 s from λh=>h1 h.1)]
  exact C7 rfl
theorem Ah4(s:ByteArray):D.ask (.fn 201) [sv s,sv (Ag [45])] []=V (.tup [sv (IF s).1,bv (IF s).2],[]):=by
 refine Aq Z Alx (Atx ..) ?_;refine Aa (Aio Z s) ?_;simp only[Ae];unfold IF
 by_cases h:N8 s
 .have h1:=h.1
  rw[Ac h,Ba h,BE,BE,show (Ag [45]).size=1 from rfl];refine Af ?_;rw[show J1 1 s.size s.size=U by unfold J1;rw[Awz h1,Awz (η _)]];rfl
 .rw[Ad h,Bu h]
  exact Bm rfl
theorem AnV(s:ByteArray):D.ask (.fn 147) [sv s,sv (Ag [45])] []=V (.tup [sv (IF s).1,bv (IF s).2],[]):=by
 refine Aq Z Alc (As0 ..) ?_;refine Aa (Ah4 Z s) ?_;rfl
include K C
theorem AcO(s:ByteArray):D.ask (.fn 85) [sv s] []=V (.tup [.agg (eZ (E5 s).1),iv (E5 s).2],[]):=by
 refine Aq Z AqS (e85 ..) ?_;refine Aa (AnV Z s) ?_;simp only[Ae];refine Aa (AbC K C (IF s).1) ?_;simp only[eN,Hw,Ae];unfold E5
 by_cases h:(IG (IF s).1).2=0
 .rw[Ac h]
  refine Aw ?_ h;refine Aa (Gn K Z C (IF s).2 (FW _) (by unfold CS;have:=Jc (IF s).1;omega)) ?_;rfl
 .rw[Ad h]
  exact Ap rfl h
end
structure ZF (D:Orc):Prop where
 frm:∀ z:Zi,Lz 1000000000 z->D.ask (.fn 145) [bv z.neg,eN z.abs] []=V (.agg (eZ (A3 (zv z))),[])
 neg:∀ z:Zi,Lz 1000000000 z->D.ask (.fn 86) [.agg (eZ z)] []=V (.agg (eZ (A3 (-zv z))),[])
 sign:∀ z:Zi,Lz 1000000000 z->D.ask (.fn 158) [.agg (eZ z)] []=V (iv (Ds (zv z)),[])
 of_:∀ n:Int,-9223372036854775808<=n->n<9223372036854775808->D.ask (.fn 84) [iv n] []=V (.agg (eZ (A3 n)),[])
 cmp:∀ a b:Zi,Lz 1000000000 a->Lz 1000000000 b->D.ask (.fn 285) [.agg (eZ a),.agg (eZ b)] []=V (iv (Gi (zv a) (zv b)),[])
 add:∀ a b:Zi,Lz 900000000 a->Lz 900000000 b->D.ask (.fn 87) [.agg (eZ a),.agg (eZ b)] []=V (.agg (eZ (A3 (zv a+zv b))),[])
 mul:∀ a b:Zi,Lz 400000000 a->Lz 400000000 b->a.abs.length<24\/b.abs.length<24->D.ask (.fn 264) [.agg (eZ a),.agg (eZ b)] []=V (.agg (eZ (A3 (zv a*zv b))),[])
 parse:∀ s:ByteArray,D.ask (.fn 85) [sv s] []=V (.tup [.agg (eZ (E5 s).1),iv (E5 s).2],[])
theorem Asd{D:Orc}(K:Knows Ak NV D)(Z:Knows Ak Ws D)(C:CloneF D):ZF D where
 frm z h:=by
  have:=Gn K Z C z.neg h.lim (by unfold CS;exact h.len);exact this
 neg z h:=Ako K Z C h
 sign z h:=QC K Z C h
 of_ n h1 h2:=ApA K Z C n h1 h2
 cmp a b ha hb:=Akm K Z C ha hb
 add a b ha hb:=Akl K Z C (η _) ha hb
 mul a b ha hb h:=Akn K Z C (η _) (η _) ha hb h
 parse s:=AcO K Z C s
theorem Tw(s:ByteArray):Lz 4000 (E5 s).1:=by
 unfold E5;split
 .rename_i h
  have h1:=FW (IF s).1;have h2:=Jc (IF s).1;have:Lz 4000 ⟨(IF s).2,(IG (IF s).1).1⟩:=⟨h1,h2⟩;exact this.inb.lz
 .exact⟨Ch,by simp⟩
