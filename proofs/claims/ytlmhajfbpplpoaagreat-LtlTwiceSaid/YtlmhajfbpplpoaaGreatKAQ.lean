/- Layer 14's alive: its pa -/
import Derived.Test.YtlmhajfbpplpoaaGreatKAP
set_option linter.all false
open Bool renaming false->Θ,true->U,and_eq_true->η,and_eq_true_iff->Ayj,false_and->Aw3,true_and->AwD
open Int renaming natAbs_mul->AzJ,natAbs_neg->Ax8,natCast_mul->AyH
open List renaming all_cons->Axn,append_assoc->Awr,drop->Awv,drop_append->Ay5,drop_drop->Ayv,drop_eq_getElem_cons->χ,drop_eq_nil_of_le->υ,drop_zero->κ,foldl_cons->Aye,getElem?_cons_succ->AwW,getElem?_eq_getElem->Ψ,length->AyO,length_append->ζ,length_cons->π,length_eq_zero_iff->AwX,length_set->Aw7,length_singleton->Aw5,length_take->AwL,map_take->AzO,mem_append->Aw1,mem_cons->Awt,mem_cons_of_mem->AwU,mem_cons_self->AwS,mem_filter->AyJ,mem_map->AxU,mem_of_mem_drop->Axq,mem_replicate->Azp,mem_singleton->AwY,nil_append->AwC,pairwise_cons->Aw2,pairwise_singleton->Ayc,replicate->Ayx,set_eq_take_append_cons_drop->Ax6,tail_drop->Ayh,take->Aws,take_length->AxD,take_succ_eq_append_getElem->Axt
open Nat renaming add_mul->Axf,add_sub_cancel->AyU,add_zero->Axg,ble->Aww,ble_eq_true_of_le->Axl,le_refl->ω,min_eq_left->AxA,mod_eq_of_lt->AxZ,mod_lt->Ax1,mod_one->AzX,mul_add->AyQ,mul_assoc->AxX,mul_comm->Azr,mul_le_mul_left->AyN,mul_one->AyB,pow_le_pow_right->AxL,pow_pos->AzY,pow_succ->AxE,strongRecOn->AxB,zero_add->AwJ
open Option renaming some->V
namespace Go.Proofs.YtlmhajfbpplpoaaGreat
open ABlk renaming mk->θ
section
open Go.RowKit
def Je:Sy:=⟨[Ai [120],Ai [121]],[],0,[],Θ,[],Θ,[],[⟨Ai [112],[Ai [97],Ai [98]],[]⟩],[]⟩
def Xu:Tr:=.mk 2 [⟨Θ,Ai [],Ai [120]⟩] [⟨Θ,Ai [48],Ai []⟩] 4 (Ai []) (Ai []) []
def ZQ:Tr:=.mk 6 [] [] 0 (Ai [112]) (Ai [98]) []
def q4:Tr:=Ef 9 [Ef 7 [Xu,Ef 10 [ZQ]]]
def Xt:Tr:=Ef 99 []
def s41:List UInt8:=[71,32,40,120,32,62,32,48,32,45,62,32,70,32,64,112,46,98,41]
def s42:List UInt8:=[120,32,61,32,49,32,85]
def s43:List UInt8:=[64,112,46,99]
set_option maxRecDepth 1000000
theorem p41:Ci s41 Je.vars Je.ps=(q4,0,0,0):=by
 unfold Ci;rw[Mc]
 kernel_rfl
theorem p42:Ci s42 Je.vars Je.ps=(T0,1,8,101):=by
 unfold Ci;rw[Mc]
 kernel_rfl
theorem p43:Ci s43 Je.vars Je.ps=(T0,1,4,110):=by
 unfold Ci;rw[Mc]
 kernel_rfl
def Yr:Option (AV × List BO)->Bool
 |some (.tup [.agg [.v (.int .i64 9),.v (.int .i64 _),.ls _],.ls [_,[.v (.bool U),.v (.int .i64 _),.v (.int .i64 1),.v (.int .i64 _),.ls _,.v (.bool _),.ls _,.v (.bool _),.ls _]],.v (.bool U)],[])=>U
 |_=>Θ
def AeL:Option (AV × List BO)->Bool
 |some (.tup [.agg [.v (.int .i64 _),.v (.int .i64 _),.ls _],.ls _,.v (.bool Θ)],[])=>U
 |_=>Θ
end
open Go.RowKit
theorem Ach{o:Option (AV × List BO)}(h:Yr o=U):∃ a b c d e f g i j k,o=V (.tup [.agg [iv 9,iv a,.ls b],.ls [c,[bv U,iv d,iv 1,iv e,.ls f,bv g,.ls i,bv j,.ls k]],bv U],[]):=by
 unfold Yr at h;split at h
 .exact⟨_,_,_,_,_,_,_,_,_,_,rfl⟩
 .cases h
theorem AeM{o:Option (AV × List BO)}(h:AeL o=U):∃ a b c d,o=V (.tup [.agg [iv a,iv b,.ls c],.ls d,bv Θ],[]):=by
 unfold AeL at h;split at h
 .exact⟨_,_,_,_,rfl⟩
 .cases h
def AfG(y:Sy):Bool:=decide (y.vars.length<=50)&&decide (y.ps.length<=12)&&y.ps.all λp=>decide (p.locs.length<=50)
structure FewY (y:Sy):Prop where
 v:y.vars.length<=50
 p:y.ps.length<=12
 q:∀ p∈y.ps,p.locs.length<=50
theorem VZ{y:Sy}:AfG y=U ↔ FewY y:=by
 unfold AfG;simp only[η,decide_eq_true_eq,List.all_eq_true];exact⟨λ⟨⟨a,b⟩,c⟩=>⟨a,b,c⟩,λ⟨a,b,c⟩=>⟨⟨a,b⟩,c⟩⟩
structure Al4F (D:Orc):Prop where
 res:∃ a b c d e f g i j k,D.ask (.fn 34) [.agg (BR q4),.agg (IF Je)] []=V (.tup [.agg [iv 9,iv a,.ls b],.ls [c,[bv U,iv d,iv 1,iv e,.ls f,bv g,.ls i,bv j,.ls k]],bv U],[])
 no:∃ a b c d,D.ask (.fn 34) [.agg (BR Xt),.agg (IF Je)] []=V (.tup [.agg [iv a,iv b,.ls c],.ls d,bv Θ],[])
 text:D.ask (.fn 38) [.agg (BR q4)] []=V (sv (Ai s41),[])
section
variable {D:Orc}
theorem Aqs(Kv:Knows Ah Mt D):D.ask (.fn 42) [] []=V (.agg (IF Je),[]):=
 Kv.fn' Ars _ rfl ((e42 ..).trans rfl)
theorem Apl(Kv:Knows Ah Mt D)(ps:List Pr)(hp:ps.length<4611686018427387904):∀(k i:Nat),ps.length-i=k->D.ask (.lp 31 0) [.ls (ps.map Uq),iv (ps.length:Int),iv (i:Int)] []
  = V (if(ps.drop i).all (λp=>decide (p.locs.length<=50)) then .tup [iv 0] else .tup [bv U,bv Θ],[]):=by
 intro k
 induction k with
 |zero=>
  intro i hi;refine Ax Kv Af7 (AlL ..) ?_;rw[show ps.drop i=[] from υ (by omega)];refine Ap ?_;rfl
 |succ k ih=>
  intro i hi;have hlt:i<ps.length:=by omega
  have ih':=ih (i+1) (by omega);rw[show ps.drop i=ps[i]::ps.drop (i+1) from χ hlt,Axn];refine Ax Kv Af7 (AlL ..) ?_;refine Au ?_;rw[AD,AA (Ψ hlt)];simp only[Uq,Ae,Al]
  by_cases h:ps[i].locs.length<=50
  .refine Ap ?_
   rw[AW h,Bv (by omega),AwD];refine Aa ih' ?_
   cases (ps.drop (i+1)).all (λp=>decide (p.locs.length<=50))<;>rfl
  .refine Au ?_
   rw[Be h,Aw3];rfl
theorem Apm(Kv:Knows Ah Mt D)(y:Sy):D.ask (.fn 31) [.agg (IF y)] []=V (bv (AfG y),[]):=by
 refine Ao Kv Af7 (e31 ..) ?_;rw[Al,Al];unfold AfG
 by_cases h1:y.vars.length<=50
 .refine Ap ?_
  rw[AW h1,AwD]
  by_cases h2:y.ps.length<=12
  .refine Ap ?_
   rw[AW h2,AwD];refine Aa (Apl Kv y.ps (by omega) _ 0 rfl) ?_;rw[κ]
   cases y.ps.all (λp=>decide (p.locs.length<=50))<;>rfl
  .refine Au ?_
   rw[Be h2];rfl
 .refine Au ?_
  rw[Be h1];rfl
theorem XM:FewY Je:=VZ.1 rfl
theorem AhB:WzT q4:=by
 have z:(Ai []).size<=9223372036854775807:=by decide
 have at':WzT ZQ:=.mk (by simp) (by simp) (by simp) (by simp) (by simp) (by simp);have cm:WzT Xu:=.mk (by simp) (by simp) (by simp) (by simp;exact⟨by decide,by decide⟩) (by simp;exact⟨by decide,by decide⟩) (by simp);have f:WzT (Ef 10 [ZQ]):=.mk (by simp) (by simp) (by simp) (by simp) (by simp) (by simpa using at');have im:WzT (Ef 7 [Xu,Ef 10 [ZQ]]):=.mk (by simp) (by simp) (by simp) (by simp) (by simp) (by intro x hx;rcases Awt.1 hx with rfl|hx;exact cm;rcases Awt.1 hx with rfl|hx;exact f;cases hx);exact .mk (by simp) (by simp) (by simp) (by simp) (by simp) (by simpa using im)
theorem AhA:WzP q4:=by
 have at':WzP ZQ:=.mk (by decide) (by decide) (by simp);have cm:WzP Xu:=.mk (by decide) (by decide) (by simp);have f:WzP (Ef 10 [ZQ]):=.mk (by decide) (by decide) (by simpa using at');have im:WzP (Ef 7 [Xu,Ef 10 [ZQ]]):=.mk (by decide) (by decide) (by intro x hx;rcases Awt.1 hx with rfl|hx;exact cm;rcases Awt.1 hx with rfl|hx;exact f;cases hx);exact .mk (by decide) (by decide) (by simpa using im)
set_option maxRecDepth 100000 in
theorem Xs:AR q4 0=U:=by kernel_rfl
theorem Ap1(a:Ad)(r:Rw)(k:Ad->KR):Bt (a::r) 0 k=k a:=rfl
theorem Ahf(a b:Ad)(r:Rw)(k:Ad->KR):Bt (a::b::r) 1 k=k b:=rfl
set_option maxRecDepth 100000 in
theorem Ab4(K:Knows Ah De D)(Kb:Knows Ah Jq D)(Kq:Knows Ah GM D)(Kr:Knows Ah XO D)(Kw:Knows Ah RD D)(L:NameF D)(A:LexA D)(Kl:Knows Ah Nv D)(Kt:Knows Ah FS D)(N:LexN D)(Kv:Knows Ah Mt D)(F:Al4F D):D.ask (.fn 30) [] []=V (bv U,[]):=by
 have hf:=XM;have par:=λ(l:List UInt8) (hl:(Ai l).size<=9223372036854775807)=>SY K Kb Kq Kr Kw L Je (by have:=hf.v;omega) (by have:=hf.p;omega) (λp hp=>by have:=hf.q p hp;omega) A (Ai l) hl
 have g1:=par s41 (by decide);have g2:=par s42 (by decide);have g3:=par s43 (by decide);rw[Dg,p41]at g1;rw[Dg,p42]at g2;rw[Dg,p43]at g3;have gs:=Aqs Kv;obtain⟨a,b,c,d,e,f,g,i,j,k,r1⟩:=F.res;obtain⟨a',b',c',d',r2⟩:=F.no;have gr:=KV Kl Kt N q4 AhB AhA;rw[Xs]at gr;have gt:=F.text;obtain⟨k7,hq⟩:∃ k7,BR q4=[iv 9,.ls [],.ls [],iv 0,sv (Ai []),sv (Ai []),.ls [[iv 7,.ls [],.ls [],iv 0,sv (Ai []),sv (Ai []),.ls k7]]]:=⟨_,rfl⟩;have g1:D.ask (.fn 32) [sv (Ai s41),.agg (IF Je)] []=V (.tup [.agg (BR q4),.agg [iv 0,iv 0],iv 0],[]):=g1;have g2:D.ask (.fn 32) [sv (Ai s42),.agg (IF Je)] []=V (.tup [.agg (BR T0),.agg [iv 1,iv 8],iv 101],[]):=g2;have g3:D.ask (.fn 32) [sv (Ai s43),.agg (IF Je)] []=V (.tup [.agg (BR T0),.agg [iv 1,iv 4],iv 110],[]):=g3;rw[hq]at g1 r1 gr gt;refine Ao Kv Arm (e30 ..) ?_;refine Aa gs ?_;simp only[IF,Ae];refine Aa g1 ?_;simp only[Ae];refine Aa gs ?_;simp only[IF,Ae];refine Aa g2 ?_;simp only[T0,BR,Ae];refine Aa gs ?_;simp only[IF,Ae];refine Aa g3 ?_;simp only[T0,BR,Ae];refine Aw ?_ rfl;refine Aw ?_ rfl;refine Eq.trans (Ap1 _ _ _) ?_;simp only[Ae];refine Aw ?_ rfl;refine Aw ?_ rfl;rw[show Ak.not (Ak.band (Ak.eq 1 1) (Ak.band (Ak.eq 8 8) U))=Θ from Ahd 1 8];refine BF ?_;refine Aw ?_ rfl;refine Aa gs ?_;simp only[IF,Ae];refine Aa r1 ?_;simp only[Ae];refine Aa gs ?_;simp only[IF,Ae];refine Aa r2 ?_;simp only[Ae];refine Aa gt ?_;simp only[Ae];refine Fv rfl ?_;refine Aa gr ?_;simp only[Ae];refine Aw ?_ rfl;refine Aw ?_ rfl;refine Eq.trans (Ahf _ _ _ _) ?_;simp only[Ae];refine Eq.trans (Ahf _ _ _ _) ?_;simp only[Ae];refine Aw ?_ rfl;rfl
end
def Am:Aj->Nat
 |[]=>0
 |x::r=>x+4294967296*Am r
def Limbs(l:Aj):Prop:=∀ x∈l,x<4294967296
def AY(n:Nat):Aj:=if n=0 then [] else(n % 4294967296)::AY (n / 4294967296)
termination_by n
decreasing_by omega
theorem FW:AY 0=[]:=by rw[AY];rfl
theorem JY{n:Nat}(h:n≠0):AY n=(n % 4294967296)::AY (n / 4294967296):=by rw[AY,Ab h]
theorem AE:∀(n:Nat),Limbs (AY n):=by
 intro n
 induction n using AxB with
 |ind n ih=>
  by_cases h:n=0
  .subst h;rw[FW];intro x hx;cases hx
  .rw[JY h]
   intro x hx;rcases Awt.1 hx with rfl|hx
   .exact Ax1 _ (by omega)
   .exact ih (n / 4294967296) (by omega) x hx
theorem A0:∀(n:Nat),Am (AY n)=n:=by
 intro n
 induction n using AxB with
 |ind n ih=>
  by_cases h:n=0
  .subst h;rw[FW];rfl
  .grind [Am,JY]
def DU:Aj->Nat
 |[]=>0
 |x::r=>if DU r=0/\x=0 then 0 else DU r+1
theorem EY:∀ l:Aj,DU l<=l.length
 |[]=>ω _
 |x::r=>by
  have:=EY r;unfold DU;rw[π];split<;>omega
theorem Limbs.cons{x:Nat}{r:Aj}(h:Limbs (x::r)):x<4294967296/\Limbs r:=⟨h x (AwS ..),λy hy=>h y (AwU _ hy)⟩
theorem Cn:Limbs []:=λ_ h=>by cases h
theorem B6{x:Nat}{r:Aj}(h:x<4294967296)(h2:Limbs r):Limbs (x::r):=λy hy=>by
 rcases Awt.1 hy with rfl|hy
 .exact h
 .exact h2 y hy
theorem SV{a b:Aj}(h:Limbs a)(h2:Limbs b):Limbs (a++b):=λx hx=>by
 rcases Aw1.1 hx with hx|hx
 .exact h x hx
 .exact h2 x hx
theorem Limbs.take{l:Aj}(h:Limbs l)(n:Nat):Limbs (l.take n):=λx hx=>h x (List.mem_of_mem_take hx)
theorem Limbs.drop{l:Aj}(h:Limbs l)(n:Nat):Limbs (l.drop n):=λx hx=>h x (Axq hx)
theorem Limbs.get{l:Aj}(h:Limbs l){i:Nat}(hi:i<l.length):l[i]<4294967296:=h _ (List.getElem_mem hi)
theorem AiH:∀{l:Aj},DU l=0->Am l=0
 |[],_=>rfl
 |x::r,h=>by
  unfold DU at h;split at h
  .rename_i h2
   rw[Am,AiH h2.1,h2.2]
  .omega
theorem AiN:∀{l:Aj},Am l=0->DU l=0
 |[],_=>rfl
 |x::r,h=>by
  rw[Am]at h;unfold DU;rw[Ac ⟨AiN (by omega),by omega⟩]
theorem Nw:∀{l:Aj},Limbs l->l.take (DU l)=AY (Am l)
 |[],_=>by rw[Am,FW];rfl
 |x::r,h=>by
  obtain⟨h1,h2⟩:=h.cons;have ih:=Nw h2;unfold DU;split
  .first|grind [Am,FW,AiH] | grind [Am,List.take_zero,FW,AiH]
  .first|grind [Am,JY,AiN] | grind [Am,List.take_succ_cons,JY,AiN]
theorem GP:∀(a b:Aj),Am (a++b)=Am a+4294967296 ^ a.length*Am b
 |[],b=>by simp[Am]
 |x::r,b=>by
  rw[List.cons_append,Am,GP r b,Am,π,AxE,AyQ,←AxX,Azr 4294967296 (4294967296 ^ r.length)];omega
theorem Dy:∀{l:Aj},Limbs l->Am l<4294967296 ^ l.length
 |[],_=>by simp[Am]
 |x::r,h=>by
  obtain⟨h1,h2⟩:=h.cons;have:=Dy h2;rw[Am,π,AxE];omega
theorem JX(l:Aj)(h:Limbs l):(AY (Am l)).length=DU l:=by
 (first|grind [Nw,EY] | grind [AwL,Nw,EY])
theorem BS{n k:Nat}(h:n<4294967296 ^ k):(AY n).length<=k:=by
 induction k generalizing n with
 |zero=>
  have:n=0:=by simpa using h
  subst this;rw[FW];exact ω _
 |succ k ih=>
  by_cases h0:n=0
  .grind
  .first|grind [JY] | grind [π,Nat.div_lt_iff_lt_mul,AxE,JY]
theorem WN{n k:Nat}(h:4294967296 ^ k<=n):k<(AY n).length:=by
 by_cases h2:k<(AY n).length
 .exact h2
 .have h3:=Dy (AE n)
  rw[A0]at h3;have h4:4294967296 ^ (AY n).length<=4294967296 ^ k:=AxL (by omega) (by omega);omega
theorem TJ:∀{l:Aj},0<DU l->∃ x,l[DU l-1]? = V x/\x≠0
 |[],h=>by simp[DU]at h
 |y::r,h=>by
  by_cases h1:DU r=0
  .have h2:y≠0:=by
    grind [DU]
   refine⟨y,?_,h2⟩;unfold DU;rw[Ab (λe=>h2 e.2),h1];rfl
  .obtain⟨x,h3,h4⟩:=TJ (l:=r) (by omega)
   refine⟨x,?_,h4⟩;unfold DU;rw[Ab (λe=>h1 e.1)];have:DU r+1-1=(DU r-1)+1:=by omega
   rw[this,AwW,h3]
theorem Vn:∀{l:Aj} {i x:Nat},l[i]? = V x->x≠0->i<DU l
 |[],i,x,h,_=>by simp at h
 |y::r,0,x,h,h2=>by
  grind [DU]
 |y::r,i+1,x,h,h2=>by
  rw[AwW]at h;have:=Vn h h2;unfold DU;rw[Ab (λe=>by omega)];omega
theorem TI{l:Aj}{n:Nat}(h:DU l<=n+1)(h2:l[n]? = V 0):DU l<=n:=by
 (first|grind [TJ] | grind [AyU,TJ])
def eL(n:Nat):Ad:=[.v (.int .u32 (n:Int))]
def eN(l:Aj):AV:=.ls (l.map eL)
theorem A2(x:Nat):(eL x).length=1:=rfl
def NG:Nat->Aj->Aj->Aj
 |c,[],_=>[c]
 |c,x::a,b=>((x+b.headD 0+c) % 4294967296)::NG ((x+b.headD 0+c) / 4294967296) a b.tail
theorem Gy{b:Aj}(h:Limbs b):b.headD 0<4294967296:=by
 cases b with
 |nil=>simp
 |cons y b=>exact h.cons.1
theorem Limbs.tail{b:Aj}(h:Limbs b):Limbs b.tail:=by
 cases b with
 |nil=>exact h
 |cons y b=>exact h.cons.2
theorem K9(b:Aj):Am b=b.headD 0+4294967296*Am b.tail:=by
 cases b<;>rfl
theorem Ot:∀(a b:Aj) (c:Nat),b.length<=a.length->Am (NG c a b)=c+Am a+Am b
 |[],b,c,h=>by
  obtain rfl:b=[]:=AwX.1 (by simpa using h);simp[NG,Am]
 |x::a,b,c,h=>by
  have ih:=Ot a b.tail ((x+b.headD 0+c) / 4294967296) (by simp at h ⊢;omega);rw[NG,Am,ih,Am,K9 b];omega
theorem LK:∀(a b:Aj) (c:Nat),Limbs a->Limbs b->c<=1->Limbs (NG c a b)
 |[],b,c,_,_,hc=>B6 (by omega) Cn
 |x::a,b,c,ha,hb,hc=>by
  have h1:=Gy hb;have h2:=ha.cons;exact B6 (Ax1 _ (by omega)) (LK a b.tail _ h2.2 hb.tail (by omega))
def O9:Nat->Nat->Aj->Aj->Aj
 |0,_,_,_=>[]
 |k+1,c,a,b=>((a.headD 0+b.headD 0+c) % 4294967296)::O9 k ((a.headD 0+b.headD 0+c) / 4294967296) a.tail b.tail
theorem TL:∀(k c:Nat) (a b:Aj),Am (O9 k c a b)=(c+Am a+Am b) % 4294967296 ^ k
 |0,c,a,b=>by simp[O9,Am,AzX]
 |k+1,c,a,b=>by
  have ih:=TL k ((a.headD 0+b.headD 0+c) / 4294967296) a.tail b.tail;rw[O9,Am,ih,K9 a,K9 b,AxE,Azr (4294967296 ^ k) 4294967296,Nat.mod_mul];have e1:(c+(a.headD 0+4294967296*Am a.tail)+(b.headD 0+4294967296*Am b.tail)) % 4294967296=(a.headD 0+b.headD 0+c) % 4294967296:=by omega
  have e2:(c+(a.headD 0+4294967296*Am a.tail)+(b.headD 0+4294967296*Am b.tail)) / 4294967296=(a.headD 0+b.headD 0+c) / 4294967296+Am a.tail+Am b.tail:=by omega
  rw[e1,e2]
theorem P2:∀(k c:Nat) (a b:Aj),Limbs (O9 k c a b)
 |0,_,_,_=>Cn
 |k+1,c,a,b=>B6 (Ax1 _ (by omega)) (P2 k _ _ _)
def Ja:Nat->Aj->Aj->Aj
 |_,[],_=>[]
 |c,x::a,b=>(if x<b.headD 0+c then x+4294967296-(b.headD 0+c) else x-(b.headD 0+c))::Ja (if x<b.headD 0+c then 1 else 0) a b.tail
def Z3:Nat->Aj->Aj->Nat
 |c,[],_=>c
 |c,x::a,b=>Z3 (if x<b.headD 0+c then 1 else 0) a b.tail
theorem AbH:∀(a b:Aj) (c:Nat),c<=1->Z3 c a b<=1
 |[],_,_,h=>h
 |x::a,b,c,h=>AbH a b.tail _ (by split<;>omega)
theorem TN:∀(a b:Aj) (c:Nat),Limbs a->Limbs b->c<=1->b.length<=a.length->Am (Ja c a b)+Am b+c=Am a+4294967296 ^ a.length*Z3 c a b
 |[],b,c,_,_,_,h=>by
  obtain rfl:b=[]:=AwX.1 (by simpa using h);simp[Ja,Z3,Am]
 |x::a,b,c,ha,hb,hc,h=>by
  have h1:=Gy hb;have h2:=ha.cons;rw[Ja,Z3,Am,Am,K9 b,π,AxE];have ih:=TN a b.tail (if x<b.headD 0+c then 1 else 0) h2.2 hb.tail (by split<;>omega) (by simp at h ⊢;omega);rw[Azr (4294967296 ^ a.length) 4294967296,AxX];revert ih;generalize 4294967296 ^ a.length*Z3 (if x<b.headD 0+c then 1 else 0) a b.tail=z;generalize Am (Ja (if x<b.headD 0+c then 1 else 0) a b.tail)=s;intro ih;split at ih
  .grind
  .grind
theorem Jc:∀(a b:Aj) (c:Nat),Limbs a->Limbs b->c<=1->Limbs (Ja c a b)
 |[],_,_,_,_,_=>Cn
 |x::a,b,c,ha,hb,hc=>by
  have h1:=Gy hb;have h2:=ha.cons;refine B6 ?_ (Jc a b.tail _ h2.2 hb.tail (by split<;>omega));split<;>omega
theorem Nu:∀(a b:Aj) (c:Nat),(Ja c a b).length=a.length
 |[],_,_=>rfl
 |x::a,b,c=>by rw[Ja,π,Nu a,π]
theorem XY{a b:Aj}(ha:Limbs a)(hb:Limbs b)(h:b.length<=a.length)(hv:Am b<=Am a):Am (Ja 0 a b)=Am a-Am b:=by
 have h1:=TN a b 0 ha hb (by omega) h;have h2:=Dy (Jc a b 0 ha hb (by omega));rw[Nu]at h2;have h3:=AbH a b 0 (by omega);have h4:=Dy ha;rcases Nat.lt_or_ge (Z3 0 a b) 1 with h5|h5
 .grind
 .grind
def QV:Nat->Nat->Aj->Aj->Aj
 |_,c,[],o=>c::o.tail
 |x,c,y::b,o=>((x*y+o.headD 0+c) % 4294967296)::QV x ((x*y+o.headD 0+c) / 4294967296) b o.tail
theorem TM:∀(x:Nat) (b o:Aj) (c:Nat),(o.drop b.length).headD 0=0->Am (QV x c b o)=x*Am b+Am o+c
 |x,[],o,c,h=>by
  grind [QV,Am,K9]
 |x,y::b,o,c,h=>by
  have h2:(o.tail.drop b.length).headD 0=0:=by
   simp_all
  have ih:=TM x b o.tail ((x*y+o.headD 0+c) / 4294967296) h2;have e:x*(y+4294967296*Am b)=x*y+4294967296*(x*Am b):=by
   grind
  rw[QV,Am,ih,Am,K9 o,e];omega
theorem QY{x y:Nat}(hx:x<4294967296)(hy:y<4294967296):x*y<=18446744065119617025:=by
 have:=Nat.mul_le_mul (show x<=4294967295 by omega) (show y<=4294967295 by omega);omega
theorem QW:∀(x:Nat) (b o:Aj) (c:Nat),x<4294967296->Limbs b->Limbs o->c<4294967296->Limbs (QV x c b o)
 |x,[],o,c,_,_,ho,hc=>B6 hc ho.tail
 |x,y::b,o,c,hx,hb,ho,hc=>by
  have h1:=Gy ho;have h2:=hb.cons;have h3:=QY hx h2.1;exact B6 (Ax1 _ (by omega)) (QW x b o.tail _ hx h2.2 ho.tail (by omega))
def ET:Nat->Nat->Aj->Aj
 |_,c,[]=>[c]
 |m,c,x::a=>((x*m+c) % 4294967296)::ET m ((x*m+c) / 4294967296) a
theorem KE:∀(m:Nat) (a:Aj) (c:Nat),Am (ET m c a)=Am a*m+c
 |m,[],c=>by simp[ET,Am]
 |m,x::a,c=>by
  rw[ET,Am,KE m a,Am,Axf,AxX];omega
theorem I9:∀(m:Nat) (a:Aj) (c:Nat),m<4294967296->Limbs a->c<4294967296->Limbs (ET m c a)
 |m,[],c,_,_,hc=>B6 hc Cn
 |m,x::a,c,hm,ha,hc=>by
  have h2:=ha.cons;have h3:=QY h2.1 hm;exact B6 (Ax1 _ (by omega)) (I9 m a _ hm h2.2 (by omega))
def Ep(a b:Nat):Int:=if a<b then -1 else if b<a then 1 else 0
theorem VN{a b:Aj}(ha:Limbs a)(hb:Limbs b)(h:a.length=b.length)(x y:Nat):Ep (Am (a++[x])) (Am (b++[y]))=if x<y then -1 else if y<x then 1 else Ep (Am a) (Am b):=by
 rw[GP,GP,←h];have h1:=Dy ha;have h2:=Dy hb;rw[←h]at h2;simp only[Am,Nat.mul_zero,Axg];revert h1 h2;generalize 4294967296 ^ a.length=k;generalize Am a=p;generalize Am b=q;intro h1 h2
 by_cases h3:x<y
 .rw[Ac h3]
  have:k*(x+1)<=k*y:=AyN _ h3;rw[AyQ]at this;unfold Ep;rw[Ac (by omega)]
 .rw[Ab h3]
  by_cases h4:y<x
  .rw[Ac h4]
   have:k*(y+1)<=k*x:=AyN _ h4;rw[AyQ]at this;unfold Ep;rw[Ab (by omega),Ac (by omega)]
  .rw[Ab h4]
   obtain rfl:x=y:=by omega
   unfold Ep
   by_cases h5:p<q
   .omega
   .omega
structure Zi where
 neg:Bool
 abs:Aj
def E5(neg:Bool)(n:Nat):Int:=if neg then -(n:Int) else n
def zv(z:Zi):Int:=E5 z.neg (Am z.abs)
def Bo(n:Int):Zi:=⟨decide (n<0),AY n.natAbs⟩
def eZ(z:Zi):Ad:=[bv z.neg,eN z.abs]
theorem AkX(n:Int):E5 (decide (n<0)) n.natAbs=n:=by
 unfold E5
 by_cases h:n<0
 .rw[AW h,Ac rfl];omega
 .rw[Be h,Ab (by simp)];omega
theorem CV(n:Int):zv (Bo n)=n:=by
 unfold zv Bo;rw[A0];exact AkX n
theorem AbZ(neg:Bool)(v:Nat):Bo (E5 neg v)=⟨neg&&decide (0<v),AY v⟩:=by
 unfold Bo E5
 cases neg with
 |false=>
  rw[Ab (by simp),Aw3,Be (by omega)];rfl
 |true=>
  rw[Ac rfl,AwD,Ax8,Int.natAbs_natCast]
  congr 1
  by_cases h:0<v
  .rw[AW h,AW (by omega)]
  .rw[Be h,Be (by omega)]
theorem Vv:Bo 0=⟨Θ,[]⟩:=by
 unfold Bo;rw[show (0:Int).natAbs=0 from rfl,FW];rfl
structure Lz (k:Nat) (z:Zi):Prop where
 lim:Limbs z.abs
 len:z.abs.length<=k
theorem Lz.mono{k m:Nat}{z:Zi}(h:Lz k z)(hm:k<=m):Lz m z:=⟨h.lim,by have:=h.len;omega⟩
def InB(k:Nat)(n:Int):Prop:=n.natAbs<4294967296 ^ k
theorem InB.lz{k:Nat}{n:Int}(h:InB k n):Lz k (Bo n):=⟨AE _,BS h⟩
theorem Lz.inb{k:Nat}{z:Zi}(h:Lz k z):InB k (zv z):=by
 unfold InB zv;have h1:=Dy h.lim;have h2:4294967296 ^ z.abs.length<=4294967296 ^ k:=AxL (by omega) h.len;have h3:(E5 z.neg (Am z.abs)).natAbs=Am z.abs:=by
  unfold E5;split
  .rw[Ax8];rfl
  .rfl
 omega
theorem InB.mono{k m:Nat}{n:Int}(h:InB k n)(hm:k<=m):InB m n:=by
 unfold InB at *;have h2:4294967296 ^ k<=4294967296 ^ m:=AxL (by omega) hm;omega
theorem InB.add{k:Nat}{a b:Int}(ha:InB k a)(hb:InB k b):InB (k+1) (a+b):=by
 unfold InB at *;have:=Int.natAbs_add_le a b;rw[AxE];omega
theorem InB.neg{k:Nat}{a:Int}(ha:InB k a):InB k (-a):=by
 unfold InB at *;rw[Ax8];exact ha
theorem InB.mul{k m:Nat}{a b:Int}(ha:InB k a)(hb:InB m b):InB (k+m) (a*b):=by
 unfold InB at *;rw[AzJ,Nat.pow_add];have h1:a.natAbs*b.natAbs<=a.natAbs*4294967296 ^ m:=AyN _ (Nat.le_of_lt hb);have h2:a.natAbs*4294967296 ^ m<4294967296 ^ k*4294967296 ^ m:=Nat.mul_lt_mul_of_pos_right ha (AzY (by omega));omega
theorem InB.zero(k:Nat):InB k 0:=by
 unfold InB;exact AzY (by omega)
theorem InB.one{k:Nat}(h:1<=k):InB k 1:=by
 have:InB 1 1:=by unfold InB;decide
 exact this.mono h
def GU(a b:Int):Int:=if a<b then -1 else if b<a then 1 else 0
def DS(n:Int):Int:=if n<0 then -1 else if 0<n then 1 else 0
theorem AiX(z:Zi):zv z<0 ↔ z.neg=U/\0<Am z.abs:=by
 obtain⟨n,l⟩:=z
 cases n with
 |true=>
  show (-(Am l:Int)<0) ↔ (U=U/\0<Am l)
  exact⟨λh=>⟨rfl,by omega⟩,λh=>by have:=h.2;omega⟩
 |false=>
  show ((Am l:Int)<0) ↔ (Θ=U/\0<Am l)
  exact⟨λh=>by omega,λh=>by cases h.1⟩
theorem Ab0(z:Zi):zv z=0 ↔ Am z.abs=0:=by
 unfold zv E5;split<;>omega
theorem F8{n:Nat}:0<(AY n).length ↔ 0<n:=by
 constructor
 .intro h
  by_cases h0:n=0
  .subst h0;rw[FW]at h;simp at h
  .omega
 .intro h
  rw[JY (by omega)];simp
def Bm(v:Int):List (Int × Int)->Int
 |[]=>0
 |p::r=>(if p.1=v then p.2 else 0)+Bm v r
theorem Gv{v:Int}:∀{l:List (Int × Int)},(∀ p∈l,p.1≠v)->Bm v l=0
 |[],_=>rfl
 |p::r,h=>by
  rw[Bm,Ab (h p (AwS ..)),Gv λq hq=>h q (AwU _ hq)];rfl
theorem Qh{v:Int}{a b:List (Int × Int)}(h:a.Perm b):Bm v a=Bm v b:=by
 induction h with
 |nil=>rfl
 |cons x _ ih=>rw[Bm,Bm,ih]
 |swap x y l=>rw[Bm,Bm,Bm,Bm];omega
 |trans _ _ ih1 ih2=>rw[ih1,ih2]
structure Pln (l:List (Int × Int)):Prop where
 asc:l.Pairwise λa b=>a.1<b.1
 pos:∀ p∈l,0<=p.1
 nz:∀ p∈l,p.2≠0
theorem Abr:Pln []:=⟨.nil,by simp,by simp⟩
theorem Pln.tail{p:Int × Int}{r:List (Int × Int)}(h:Pln (p::r)):Pln r:=⟨(Aw2.1 h.asc).2,λq hq=>h.pos q (AwU _ hq),λq hq=>h.nz q (AwU _ hq)⟩
theorem Pln.head{p:Int × Int}{r:List (Int × Int)}(h:Pln (p::r)):Bm p.1 (p::r)=p.2:=by
 rw[Bm,Ac rfl,Gv λq hq=>by have:=(Aw2.1 h.asc).1 q hq;omega];omega
theorem Pln.below{p:Int × Int}{r:List (Int × Int)}(h:Pln (p::r)){v:Int}(hv:v<p.1):Bm v (p::r)=0:=by
 refine Gv λq hq=>?_
 rcases Awt.1 hq with rfl|hq
 .omega
 .have:=(Aw2.1 h.asc).1 q hq
  omega
theorem Pln.ext:∀{a b:List (Int × Int)},Pln a->Pln b->(∀ v,Bm v a=Bm v b)->a=b
 |[],[],_,_,_=>rfl
 |[],q::s,_,hb,h=>by
  have h1:=hb.head;rw[←h q.1]at h1;exact absurd h1.symm (hb.nz q (AwS ..))
 |p::r,[],ha,_,h=>by
  have h1:=ha.head;rw[h p.1]at h1;exact absurd h1.symm (ha.nz p (AwS ..))
 |p::r,q::s,ha,hb,h=>by
  have h1:=ha.head;have h2:=hb.head;have n1:=ha.nz p (AwS ..);have n2:=hb.nz q (AwS ..);have e:p.1=q.1:=by
   rcases Int.lt_trichotomy p.1 q.1 with h3|h3|h3
   .rw[h p.1,hb.below h3]at h1
    exact absurd h1.symm n1
   .exact h3
   .rw[←h q.1,ha.below h3]at h2
    exact absurd h2.symm n2
  have e2:p.2=q.2:=by rw[←h1,←h2,h p.1,e]
  have ep:p=q:=Prod.ext e e2;rw[ep,Pln.ext ha.tail hb.tail λv=>by
   have:=h v;rw[Bm,Bm,ep]at this;omega]
def MW(v c:Int):List (Int × Int)->List (Int × Int)
 |[]=>if c=0 then [] else [(v,c)]
 |p::r=>if v<p.1 then(if c=0 then p::r else(v,c)::p::r) else if p.1<v then p::MW v c r else if p.2+c=0 then r else(v,p.2+c)::r
theorem N2(v c u:Int):∀ l:List (Int × Int),Bm u (MW v c l)=(if v=u then c else 0)+Bm u l
 |[]=>by
  grind [Bm,MW]
 |p::r=>by
  have ih:=N2 v c u r;unfold MW;split
  .split
   .rename_i h;rw[h];simp
   .rfl
  .grind [Bm]
theorem WF{v c:Int}:∀{l:List (Int × Int)} {q:Int × Int},q∈MW v c l->q.1=v\/q∈l
 |[],q,h=>by
  grind [MW]
 |p::r,q,h=>by
  unfold MW at h;split at h
  .grind
  .split at h
   .rcases Awt.1 h with h|h
    .grind
    .rcases WF h with h|h
     .exact .inl h
     .grind
   .grind
theorem WG{v c:Int}(hv:0<=v):∀{l:List (Int × Int)},Pln l->Pln (MW v c l)
 |[],_=>by
  unfold MW;split
  .exact Abr
  .rename_i h
   exact⟨Ayc _ _,by simpa using hv,by simpa using h⟩
 |p::r,h=>by
  have ih:=WG (c:=c) hv h.tail;have hp:=Aw2.1 h.asc;unfold MW;split
  .rename_i h1
   split
   .exact h
   .rename_i h2
    refine⟨Aw2.2 ⟨λq hq=>?_,h.asc⟩,λq hq=>?_,λq hq=>?_⟩
    .grind
    .grind
    .rcases Awt.1 hq with rfl|hq
     .exact h2
     .exact h.nz q hq
  .split
   .rename_i h1 h2
    refine⟨Aw2.2 ⟨λq hq=>?_,ih.asc⟩,λq hq=>?_,λq hq=>?_⟩
    .grind [WF]
    .rcases Awt.1 hq with rfl|hq
     .exact h.pos _ (AwS ..)
     .exact ih.pos q hq
    .rcases Awt.1 hq with rfl|hq
     .exact h.nz _ (AwS ..)
     .exact ih.nz q hq
   .rename_i h1 h2
    split
    .exact h.tail
    .rename_i h3
     refine⟨Aw2.2 ⟨λq hq=>?_,hp.2⟩,λq hq=>?_,λq hq=>?_⟩
     .grind
     .grind
     .rcases Awt.1 hq with rfl|hq
      .exact h3
      .exact h.tail.nz q hq
def FL:List (Int × Int)->List (Int × Int)
 |[]=>[]
 |p::r=>if 0<=p.1 then MW p.1 p.2 (FL r) else FL r
theorem Gm:∀ l:List (Int × Int),Pln (FL l)
 |[]=>Abr
 |p::r=>by
  unfold FL;split
  .rename_i h;exact WG h (Gm r)
  .exact Gm r
theorem Mi(v:Int):∀ l:List (Int × Int),Bm v (FL l)=if 0<=v then Bm v l else 0
 |[]=>by simp[FL,Bm]
 |p::r=>by
  have ih:=Mi v r;unfold FL
  by_cases h:0<=p.1
  .by_cases hv:0<=v
   .simp_all [Bm,Ac,N2]
   .rw[Ac h,N2,ih,Ab hv,Ab hv,Ab (by omega)]
    rfl
  .grind [Bm]
theorem Q8{l r:List (Int × Int)}(h:Pln r)(hc:∀ v,0<=v->Bm v r=Bm v l):r=FL l:=by
 refine Pln.ext h (Gm l) λv=>?_
 rw[Mi]
 by_cases hv:0<=v
 .rw[Ac hv,hc v hv]
 .rw[Ab hv]
  refine Gv λp hp e=>?_
  have:=h.pos p hp;omega
theorem ZM{l:List (Int × Int)}(h:Pln l):FL l=l:=(Q8 h λ_ _=>rfl).symm
theorem To:∀ l:List (Int × Int),(FL l).length<=l.length
 |[]=>ω _
 |p::r=>by
  have ih:=To r;have ins:∀ l:List (Int × Int),(MW p.1 p.2 l).length<=l.length+1:=λl=>by
   induction l with
   |nil=>unfold MW;split<;>simp
   |cons q s ih=>
    unfold MW;split
    .split<;>simp
    .grind
  unfold FL;split
  .grind
  .grind
section
variable {α:Type} (key:α->Int)
def kf(l:List α)(p:Nat):Int:=match l[p]? with
 |some x=>key x
 |none=>0
theorem Hu{l:List α}{p:Nat}(h:p<l.length):kf key l p=key l[p]:=by
 grind [kf]
def D5(l:List α)(i j:Nat):List α:=match l[i]?,l[j]? with
 |some x,V y=>(l.set i y).set j x
 |_,_=>l
theorem EV{l:List α}{i j:Nat}(hi:i<l.length)(hj:j<l.length):D5 l i j=(l.set i l[j]).set j l[i]:=by
 grind [D5]
theorem K7(l:List α)(i j:Nat):(D5 l i j).length=l.length:=by
 unfold D5;split<;>simp
theorem AaI{l:List α}{i j:Nat}(hi:i<l.length)(hj:j<l.length)(p:Nat):kf key (D5 l i j) p=if p=j then kf key l i else if p=i then kf key l j else kf key l p:=by
 rw[EV hi hj];unfold kf
 by_cases h1:p=j
 .grind
 .grind
theorem Jd(l:List α)(i j:Nat):(D5 l i j).Perm l:=by
 by_cases hi:i<l.length
 .by_cases hj:j<l.length
  .rw[EV hi hj]
   have:=Array.swap_perm (xs:=l.toArray) (i:=i) (j:=j) (by simpa using hi) (by simpa using hj);have h2:=this.toList;simpa[Array.swap]using h2
  .simp_all [D5]
 .simp_all [D5]
theorem AdQ{l:List α}{i j p:Nat}(h1:p≠i)(h2:p≠j):(D5 l i j)[p]? = l[p]?:=by
 unfold D5;split
 .grind
 .rfl
def Srt(l:List α)(a b:Nat):Prop:=∀ p q,a<=p->p<q->q<b->kf key l p<=kf key l q
def Ab1(l:List α)(a i j:Nat):Prop:=∀ p q,a<=p->p<q->q<=i->q≠j->kf key l p<=kf key l q
def Same0(l r:List α)(a b:Nat):Prop:=∀ p,(p<a\/b<=p)->r[p]? = l[p]?
theorem D4(l:List α)(a b:Nat):Same0 l l a b:=λ_ _=>rfl
theorem Same0.trans{l r s:List α}{a b:Nat}(h1:Same0 l r a b)(h2:Same0 r s a b):Same0 l s a b:=λp hp=>(h2 p hp).trans (h1 p hp)
theorem Same0.wide{l r:List α}{a b c d:Nat}(h1:Same0 l r a b)(hc:c<=a)(hd:b<=d):Same0 l r c d:=λp hp=>h1 p (by omega)
theorem Same0.kf{l r:List α}{a b p:Nat}(h:Same0 l r a b)(hp:p<a\/b<=p):kf key r p=kf key l p:=by
 unfold Go.Proofs.YtlmhajfbpplpoaaGreat.kf;rw[h p hp]
theorem AdR{l:List α}{i j a b:Nat}(h1:a<=i)(h2:i<b)(h3:a<=j)(h4:j<b):Same0 l (D5 l i j) a b:=λp hp=>AdQ (by omega) (by omega)
theorem AdN{l:List α}{a i j:Nat}(hi:i<l.length)(ha:a<j)(hj:j<=i)(h:Ab1 key l a i j)(hlt:kf key l j<kf key l (j-1)):Ab1 key (D5 l j (j-1)) a i (j-1):=by
 intro p q h1 h2 h3 h4;rw[AaI key (by omega) (by omega),AaI key (by omega) (by omega)]
 by_cases q1:q=j
 .subst q1
  rw[Ab (show ¬ q=q-1 by omega),Ac rfl]
  by_cases p1:p=q-1
  .rw[Ac p1];omega
  .rw[Ab p1,Ab (by omega)]
   exact h p (q-1) h1 (by omega) (by omega) (by omega)
 .rw[Ab h4,Ab q1]
  by_cases p1:p=j-1
  .rw[Ac p1]
   exact h j q (by omega) (by omega) h3 q1
  .rw[Ab p1]
   by_cases p2:p=j
   .rw[Ac p2]
    exact h (j-1) q (by omega) (by omega) h3 q1
   .rw[Ab p2]
    exact h p q h1 h2 h3 q1
theorem XI{l:List α}{a i j:Nat}(hj:j<=i)(h:Ab1 key l a i j)(he:j=a\/kf key l (j-1)<=kf key l j):Srt key l a (i+1):=by
 intro p q h1 h2 h3
 by_cases hq:q=j
 .subst hq
  rcases he with he|he
  .omega
  .by_cases hp:p=q-1
   .rw[hp];exact he
   .have:=h p (q-1) h1 (by omega) (by omega) (by omega)
    omega
 .exact h p q h1 h2 (by omega) hq
theorem Z1{l:List α}{a i:Nat}(h:Srt key l a i):Ab1 key l a i i:=λp q h1 h2 h3 h4=>h p q h1 h2 (by omega)
theorem Ve{l:List α}(h:Srt key l 0 l.length):l.Pairwise λx y=>key x<=key y:=by
 rw[List.pairwise_iff_getElem];intro i j hi hj hij;have:=h i j (by omega) hij hj
 rwa [Hu key hi,Hu key hj]at this
theorem Ak2(l:List α)(a:Nat):Srt key l a (a+1):=λp q h1 h2 h3=>by omega
theorem Ak1(l:List α)(a:Nat):Srt key l a a:=λp q h1 h2 h3=>by omega
end
noncomputable def RB:List (Nat × MFn):=[(207,AgZ),(154,AgW),(153,AgV),(157,AgX),(152,AgU),(206,M6),(242,QR),(156,W3),(208,W4)]
theorem Kp{D:Orc}(K:Knows Ah FR D):Knows Ah RB D:=
 have h:∀ f mf,BY f RB=V mf->BY f FR=V mf:=λf mf h=>by
  have hm:=Gg h;unfold RB at hm;rcases Awt.1 hm with e|hm
  .cases e
   show BY _ FR=V _
   kernel_rfl
  rcases Awt.1 hm with e|hm
  .cases e
   show BY _ FR=V _
   kernel_rfl
  rcases Awt.1 hm with e|hm
  .cases e
   show BY _ FR=V _
   kernel_rfl
  rcases Awt.1 hm with e|hm
  .cases e
   show BY _ FR=V _
   kernel_rfl
  rcases Awt.1 hm with e|hm
  .cases e
   show BY _ FR=V _
   kernel_rfl
  rcases Awt.1 hm with e|hm
  .cases e
   show BY _ FR=V _
   kernel_rfl
  rcases Awt.1 hm with e|hm
  .cases e
   show BY _ FR=V _
   kernel_rfl
  rcases Awt.1 hm with e|hm
  .cases e
   show BY _ FR=V _
   kernel_rfl
  rcases Awt.1 hm with e|hm
  .cases e
   show BY _ FR=V _
   kernel_rfl
  cases hm
 ⟨λHn s f mf args bs r h1 h2=>K.fn Hn s f mf args bs r (h f mf h1) h2,λHn s f i mf q c args bs r h1 h2 h3=>K.lp Hn s f i mf q c args bs r (h f mf h1) h2 h3⟩
structure Pt where
 v:Int
 z:Zi
def eP(p:Pt):Ad:=[iv p.v,bv p.z.neg,eN p.z.abs]
theorem AF(p:Pt):(eP p).length=3:=rfl
section
variable {α:Type} {e:α->Ad} {w:Nat} (he:∀ x,(e x).length=w)
include he
theorem AbC(l:List α):∀(i:Nat) (h:i<l.length),(Av e l).drop (i*w)=e l[i]++(Av e l).drop (i*w+w):=by
 induction l with
 |nil=>intro i h;cases h
 |cons x r ih=>
  intro i h;have hx:=he x
  cases i with
  |zero=>
   rw[Nat.zero_mul,κ,AwJ]
   show e x++Av e r=e x++(e x++Av e r).drop w
   rw[←hx,List.drop_left]
  |succ i=>
   have:=ih i (by simpa using h);have e1:∀ n,(Av e (x::r)).drop (w+n)=(Av e r).drop n:=λn=>by
    show (e x++Av e r).drop (w+n)=_
    rw[←hx,Ay5];simp
   rw[show (i+1)*w=w+i*w by rw[Axf];omega,e1,this,show w+i*w+w=w+(i*w+w) by omega,e1];rfl
theorem BC(l:List α)(i:Nat)(h:i<l.length)(k:Ad->KR):I5 (Av e l) (0+i*w) w k=k (e l[i]):=by
 have hw:i*w+w<=l.length*w:=by
  rw[←Nat.succ_mul];exact Nat.mul_le_mul_right w h
 unfold I5;have:Aww (0+i*w+w) (Av e l).length=U:=by rw[BK he];simp;omega
 rw[this]
 show k (((Av e l).drop (0+i*w)).take w)=_
 rw[AwJ,AbC he l i h,List.take_left' (he _)]
theorem Dx(l:List α)(i:Nat)(h:i<l.length)(x:α):Bq (Av e l) (0+i*w) (e x)=Av e (l.set i x):=by
 unfold Bq;rw[he x,AwJ];have e1:=AbC he l i h;have e2:∀(l:List α) (i:Nat),i<=l.length->(Av e l).take (i*w)=Av e (l.take i):=λl=>by
  induction l with
  |nil=>intro i _;simp[Av]
  |cons y r ih=>
   intro i hi
   cases i with
   |zero=>simp[Av]
   |succ i=>
    rw[show (i+1)*w=w+i*w by rw[Axf];omega]
    show (e y++Av e r).take (w+i*w)=e y++Av e (r.take i)
    rw[←he y,List.take_append,List.take_of_length_le (by omega),show (e y).length+i*(e y).length-(e y).length=i*(e y).length by omega,he y,ih i (by simpa using hi)]
 have e3:∀(l:List α) (i:Nat),i<=l.length->(Av e l).drop (i*w)=Av e (l.drop i):=λl=>by
  induction l with
  |nil=>intro i _;simp[Av]
  |cons y r ih=>
   intro i hi
   cases i with
   |zero=>simp[Av]
   |succ i=>
    rw[show (i+1)*w=w+i*w by rw[Axf];omega]
    show (e y++Av e r).drop (w+i*w)=Av e (r.drop i)
    rw[←he y,Ay5,List.drop_of_length_le (by omega),show (e y).length+i*(e y).length-(e y).length=i*(e y).length by omega,he y,ih i (by simpa using hi),AwC]
 rw[e2 l i (by omega),show i*w+w=(i+1)*w by rw[Axf];omega,e3 l (i+1) (by omega),Ax6,Ac h];simp[Av]
end
theorem G3{a b:Int}:GU a b<0 ↔ a<b:=by
 unfold GU;split
 .omega
 .split<;>omega
theorem XJ{j:Nat}(h:j<4611686018427387904):Ak.sub .i64 ((j+1:Nat):Int) 1=(j:Int):=by
 rw[Ip (by omega) (by omega)];omega
theorem Ba{a b:Nat}(h:a<b):Nat.blt a b=U:=by simpa using h
section
variable {D:Orc} (K:Knows Ah RB D)
include K
theorem WI(x:Int):D.ask (.fn 207) [iv x] []=V (bv Θ,[]):=by
 refine Ao K AmL (Aux ..) ?_;exact Aw rfl rfl
theorem Aap(x y:Int):D.ask (.fn 154) [iv x,iv y] []=V (iv (GU x y),[]):=by
 refine Ao K Amr (At2 ..) ?_;refine Aa (WI K x) ?_;simp only[Ae];refine Aa (WI K y) ?_;simp only[Ae];unfold GU
 by_cases h:x<y
 .rw[Ac h]
  exact Au rfl h
 .rw[Ab h]
  refine Ap ?_ h
  by_cases h2:y<x
  .rw[Ac h2]
   exact Au rfl h2
  .rw[Ab h2]
   exact Ap rfl h2
theorem JD(p q:Pt):D.ask (.fn 153) [.agg (eP p),.agg (eP q)] []=V (iv (GU p.v q.v),[]):=by
 refine Ao K Amq (At1 ..) ?_;refine Aa (Aap K p.v q.v) ?_;rfl
def GV:AV:=.fn (.func 153) [] []
theorem ApD(a i:Nat)(b:Int):∀(m j:Nat) (l:List Pt),j-a=m->a<=j->j<=i->i<l.length->l.length<=1000000000->Ab1 Pt.v l a i j->
  ∃ r:List Pt,D.ask (.lp 242 1) [.sl 0 0 l.length 3,iv (a:Int),iv b,GV,iv (i:Int),iv (j:Int)] [θ (Av eP l) U U]
   = V (.tup [iv 2,.sl 0 0 l.length 3,iv (a:Int),iv b,GV,iv (i:Int)],[.set (θ (Av eP r) U U)])
   ∧ r.length=l.length/\r.Perm l/\Srt Pt.v r a (i+1)/\Same0 l r a (i+1):=by
 intro m
 induction m with
 |zero=>
  intro j l hm ha hj hi hl hs;obtain rfl:j=a:=by omega
  refine⟨l,?_,rfl,List.Perm.refl _,XI Pt.v hj hs (.inl rfl),D4 _ _ _⟩;refine Ax K JN (YI ..) ?_;exact Ap rfl
 |succ m ih=>
  intro j l hm ha hj hi hl hs;obtain⟨k,rfl⟩:∃ k,j=k+1:=⟨j-1,by omega⟩;have h1:k+1<l.length:=by omega
  have h0:k<l.length:=by omega
  have kf1:kf Pt.v l (k+1)=l[k+1].v:=Hu Pt.v h1;have kf0:kf Pt.v l k=l[k].v:=Hu Pt.v h0
  by_cases hlt:l[k+1].v<l[k].v
  .have hs2:Ab1 Pt.v (D5 l (k+1) k) a i k:=AdN (j:=k+1) Pt.v hi (by omega) hj hs (by rw[AyU,kf1,kf0];exact hlt)
   have hlen:=K7 l (k+1) k;obtain⟨r,g,hr,hp,ho,hsm⟩:=ih k (D5 l (k+1) k) (by omega) (by omega) (by omega) (by omega) (by omega) hs2;rw[hlen]at g hr;refine⟨r,?_,hr,hp.trans (Jd _ _ _),ho,(AdR (by omega) (by omega) (by omega) (by omega)).trans hsm⟩;refine Ax K JN (YI ..) ?_;refine Au ?_;rw[XJ (by omega),AD,Ba h1];refine Af ?_;refine(BC AF l (k+1) h1 _).trans ?_;simp only[eP,eN,Ae];rw[AD,Ba h0];refine Af ?_;refine(BC AF l k h0 _).trans ?_;simp only[eP,eN,Ae];refine Aa (JD K l[k+1] l[k]) ?_;simp only[Ae];refine Au ?_ (G3.2 hlt);rw[AD,Ba h0];refine Af ?_;refine(BC AF l k h0 _).trans ?_;simp only[eP,eN,Ae];rw[AD,Ba h1];refine Af ?_;refine(BC AF l (k+1) h1 _).trans ?_;simp only[eP,eN,Ae];rw[AD,Ba h1];refine Af ?_;have s1:=Dx AF l (k+1) h1 l[k];have s2:=Dx AF (l.set (k+1) l[k]) k (by rw[Aw7];exact h0) l[k+1];rw[←EV h1 h0]at s2;simp only[eP,eN]at s1 s2;rw[show Aww (0+(k+1)*3+3) (Av eP l).length=U by rw[BK AF];simp;omega];refine Af ?_;rw[AD,Ba h0];refine Af ?_;rw[s1,s2];rw[show Aww (0+k*3+3) (Av eP (l.set (k+1) l[k])).length=U by rw[BK AF,Aw7];simp;omega];refine Af ?_;refine Aa g ?_;rfl
  .refine⟨l,?_,rfl,List.Perm.refl _,XI Pt.v hj hs (.inr ?_),D4 _ _ _⟩
   .skip
    refine Ax K JN (YI ..) ?_;refine Au ?_;rw[XJ (by omega),AD,Ba h1];refine Af ?_;refine(BC AF l (k+1) h1 _).trans ?_;simp only[eP,eN,Ae];rw[AD,Ba h0];refine Af ?_;refine(BC AF l k h0 _).trans ?_;simp only[eP,eN,Ae];refine Aa (JD K l[k+1] l[k]) ?_;simp only[Ae];exact Ap rfl (λh=>hlt (G3.1 h))
   .rw[AyU,kf1,kf0]
    omega
theorem AjW(a b:Nat):∀(m i:Nat) (l:List Pt),b-i=m->a<i->i<=b->b<=l.length->l.length<=1000000000->Srt Pt.v l a i->
  ∃ r:List Pt,D.ask (.lp 242 0) [.sl 0 0 l.length 3,iv (a:Int),iv (b:Int),GV,iv (i:Int)] [θ (Av eP l) U U]
   = V (.tup [iv 0,.sl 0 0 l.length 3],[.set (θ (Av eP r) U U)])
   ∧ r.length=l.length/\r.Perm l/\Srt Pt.v r a b/\Same0 l r a b:=by
 intro m
 induction m with
 |zero=>
  intro i l hm ha hi hb hl hs;obtain rfl:i=b:=by omega
  refine⟨l,?_,rfl,List.Perm.refl _,hs,D4 _ _ _⟩;refine Ax K JN (YH ..) ?_;exact Ap rfl
 |succ m ih=>
  intro i l hm ha hi hb hl hs;obtain⟨r,g,hr,hp,ho,hsm⟩:=ApD K a i (b:Int) _ i l rfl (by omega) (ω _) (by omega) hl (Z1 Pt.v hs);obtain⟨r2,g2,hr2,hp2,ho2,hsm2⟩:=ih (i+1) r (by omega) (by omega) (by omega) (by omega) (by omega) ho;rw[hr]at g2;refine⟨r2,?_,by omega,hp2.trans hp,ho2,(hsm.wide (ω _) (by omega)).trans hsm2⟩;refine Ax K JN (YH ..) ?_;refine Au ?_;refine Aa g ?_;simp only[GV,Ae];refine Af ?_;rw[Bv (by omega)];refine Aa g2 ?_;rfl
theorem Agj{a b:Nat}{l:List Pt}(hab:a<=b)(hb:b<=l.length)(hl:l.length<=1000000000) :
  ∃ r:List Pt,D.ask (.fn 242) [.sl 0 0 l.length 3,iv (a:Int),iv (b:Int),GV] [θ (Av eP l) U U]=V (.tup [],[.set (θ (Av eP r) U U)])
   ∧ r.length=l.length/\r.Perm l/\Srt Pt.v r a b/\Same0 l r a b:=by
 by_cases h:a<b
 .obtain⟨r,g,hr⟩:=AjW K a b _ (a+1) l rfl (by omega) (by omega) hb hl (Ak2 Pt.v l a)
  refine⟨r,?_,hr⟩;refine Ao K JN (Ard ..) ?_;rw[Bv (by omega)];refine Aa g ?_;rfl
 .obtain rfl:a=b:=by omega
  have g:D.ask (.lp 242 0) [.sl 0 0 l.length 3,iv (a:Int),iv (a:Int),GV,iv ((a+1:Nat):Int)] [θ (Av eP l) U U]=V (.tup [iv 0,.sl 0 0 l.length 3],[.set (θ (Av eP l) U U)]):=by
   refine Ax K JN (YH ..) ?_;exact Ap rfl
  refine⟨l,?_,rfl,List.Perm.refl _,Ak1 Pt.v l a,D4 _ _ _⟩;refine Ao K JN (Ard ..) ?_;rw[Bv (by omega)];refine Aa g ?_;rfl
end
structure Tm where
 ps:List Pt
 k:Zi
def eT(t:Tm):Ad:=[.ls (t.ps.map eP),bv t.k.neg,eN t.k.abs]
structure Lf where
 ps:List (Int × Int)
 k:Int
def pv(p:Pt):Int × Int:=(p.v,zv p.z)
def B4(p:Int × Int):Pt:=⟨p.1,Bo p.2⟩
def Tm.lf(t:Tm):Lf:=⟨t.ps.map pv,zv t.k⟩
def Lf.tm(l:Lf):Tm:=⟨l.ps.map B4,Bo l.k⟩
def Lf.pln(l:Lf):Lf:=⟨FL l.ps,l.k⟩
theorem AkF(p:Int × Int):pv (B4 p)=p:=by
 unfold pv B4;rw[CV]
theorem E6(l:Lf):l.tm.lf=l:=by
 obtain⟨ps,k⟩:=l;unfold Lf.tm Tm.lf;simp only[List.map_map,CV];rw[show (pv ∘ B4)=id from funext AkF,List.map_id]
theorem AkD(l:Lf):l.pln.pln=l.pln:=by
 unfold Lf.pln;rw[ZM (Gm _)]
structure TmB (n k:Nat) (t:Tm):Prop where
 len:t.ps.length<=n
 ps:∀ p∈t.ps,Lz k p.z
 k:Lz k t.k
structure LB (n k:Nat) (l:Lf):Prop where
 len:l.ps.length<=n
 ps:∀ p∈l.ps,InB k p.2
 k:InB k l.k
theorem TmB.lb{n k:Nat}{t:Tm}(h:TmB n k t):LB n k t.lf:=by
 refine⟨by simpa[Tm.lf]using h.len,λp hp=>?_,h.k.inb⟩;simp only[Tm.lf,AxU]at hp;obtain⟨q,hq,rfl⟩:=hp;exact(h.ps q hq).inb
theorem LB.tb{n k:Nat}{l:Lf}(h:LB n k l):TmB n k l.tm:=by
 refine⟨by simpa[Lf.tm]using h.len,λp hp=>?_,h.k.lz⟩;simp only[Lf.tm,AxU]at hp;obtain⟨q,hq,rfl⟩:=hp;exact(h.ps q hq).lz
theorem LB.mono{n k m j:Nat}{l:Lf}(h:LB n k l)(hn:n<=m)(hk:k<=j):LB m j l:=⟨by have:=h.len;omega,λp hp=>(h.ps p hp).mono hk,h.k.mono hk⟩
theorem TmB.mono{n k m j:Nat}{t:Tm}(h:TmB n k t)(hn:n<=m)(hk:k<=j):TmB m j t:=⟨by have:=h.len;omega,λp hp=>(h.ps p hp).mono hk,h.k.mono hk⟩
theorem NP{k:Nat}(v:Int):∀ l:List (Int × Int),(∀ p∈l,InB k p.2)->InB (k+l.length) (Bm v l)
 |[],_=>InB.zero _
 |p::r,h=>by
  have h1:=NP v r λq hq=>h q (AwU _ hq)
  have h2:=h p (AwS ..);rw[Bm,π,←Nat.add_assoc];refine InB.add ?_ h1;split
  .exact h2.mono (by omega)
  .exact InB.zero _
theorem Pln.mem:∀{l:List (Int × Int)},Pln l->∀ p∈l,Bm p.1 l=p.2
 |q::r,h,p,hp=>by
  rcases Awt.1 hp with rfl|hp
  .exact h.head
  .rw[Bm,Ab (by have:=(Aw2.1 h.asc).1 p hp;omega),h.tail.mem p hp]
   omega
theorem LB.pln{n k:Nat}{l:Lf}(h:LB n k l):LB n (k+n) l.pln:=by
 have hl:=To l.ps;refine⟨by have:=h.len;simp only[Lf.pln];omega,λp hp=>?_,h.k.mono (by omega)⟩;have h1:=(Gm l.ps).mem p hp;rw[Mi,Ac ((Gm l.ps).pos p hp)]at h1;rw[←h1];exact(NP p.1 l.ps h.ps).mono (by have:=h.len;omega)
def Lf.add(a b:Lf):Lf:=Lf.pln ⟨a.ps++b.ps,a.k+b.k⟩
def Lf.scale(a:Lf)(n:Int):Lf:=Lf.pln ⟨a.ps.map λp=>(p.1,p.2*n),a.k*n⟩
def Lf.sub(a b:Lf):Lf:=a.add (b.scale (-1))
def Lf.num(k:Int):Lf:=⟨[],k⟩
theorem LB.app{n k m j:Nat}{a b:Lf}(ha:LB n k a)(hb:LB m j b):LB (n+m) (k+j+1) ⟨a.ps++b.ps,a.k+b.k⟩:=by
 refine⟨by have:=ha.len;have:=hb.len;simp only[ζ];omega,λp hp=>?_,InB.add (ha.k.mono (by omega)) (hb.k.mono (by omega))⟩;rcases Aw1.1 hp with h|h
 .exact(ha.ps p h).mono (by omega)
 .exact(hb.ps p h).mono (by omega)
theorem LB.mul{n k j:Nat}{a:Lf}{x:Int}(ha:LB n k a)(hx:InB j x):LB n (k+j) ⟨a.ps.map λp=>(p.1,p.2*x),a.k*x⟩:=by
 refine⟨by simpa using ha.len,λp hp=>?_,InB.mul ha.k hx⟩;simp only[AxU]at hp;obtain⟨q,hq,rfl⟩:=hp;exact InB.mul (ha.ps q hq) hx
theorem LB.add{n k m j:Nat}{a b:Lf}(ha:LB n k a)(hb:LB m j b):LB (n+m) (k+j+1+(n+m)) (a.add b):=(ha.app hb).pln
theorem LB.scale{n k j:Nat}{a:Lf}{x:Int}(ha:LB n k a)(hx:InB j x):LB n (k+j+n) (a.scale x):=(ha.mul hx).pln
def As6(f:Int->Int):List (Int × Int)->Int
 |[]=>0
 |p::r=>p.2*f p.1+As6 f r
def Lf.val(f:Int->Int)(l:Lf):Int:=As6 f l.ps+l.k
inductive Fm where
 |mk (kind:Int) (t:Tm) (eq:Bool) (kids:List Fm)
mutual
def eF:Fm->Ad
 |.mk k t e ks=>[iv k,.ls (t.ps.map eP),bv t.k.neg,eN t.k.abs,bv e,.ls (eFs ks)]
def eFs:List Fm->Rw
 |[]=>[]
 |x::r=>eF x::eFs r
end
theorem B3:∀ l,eFs l=l.map eF
 |[]=>rfl
 |x::r=>by simp[eFs,B3 r]
def Fm.kind:Fm->Int
 |.mk k _ _ _=>k
def Fm.tm:Fm->Tm
 |.mk _ t _ _=>t
def Fm.eq:Fm->Bool
 |.mk _ _ e _=>e
def Fm.kids:Fm->List Fm
 |.mk _ _ _ ks=>ks
def Tm0:Tm:=⟨[],⟨Θ,[]⟩⟩
def PX:Lf:=⟨[],0⟩
theorem Zq:PX.tm=Tm0:=by
 unfold Lf.tm PX Tm0;rw[Vv];rfl
def kF(k:Int)(ks:List Fm):Fm:=.mk k Tm0 Θ ks
def Ps(b:Bool):Fm:=kF (if b then 0 else 1) []
def Fx(l:Lf)(e:Bool):Fm:=.mk 2 l.tm e []
def JT:Fm->List Fm
 |.mk k _ _ ks=>if k=4\/k=5 then ks else if k=3 then ks.take 1 else []
mutual
def Bn:Fm->Fm
 |.mk k t e ks=>if k=0 then Ps U else if k=2 then Fx t.lf.pln e else if k=3 then kF 3 (PB ks) else if k=4\/k=5 then kF k (KN ks) else Ps Θ
def PB:List Fm->List Fm
 |[]=>[]
 |x::_=>[Bn x]
def KN:List Fm->List Fm
 |[]=>[]
 |x::r=>Bn x::KN r
end
theorem G2:∀ l,KN l=l.map Bn
 |[]=>rfl
 |x::r=>by simp[KN,G2 r]
theorem OA:∀ l,PB l=(l.take 1).map Bn
 |[]=>rfl
 |x::r=>by simp[PB]
def VK(op:Int)(l r:Lf):Fm:=
 if op=0 then Fx (l.sub r) U
 else if op=1 then kF 3 [Fx (l.sub r) U]
 else if op=2 then Fx ((r.sub l).sub (.num 1)) Θ
 else if op=3 then Fx (r.sub l) Θ
 else if op=4 then Fx ((l.sub r).sub (.num 1)) Θ
 else if op=5 then Fx (l.sub r) Θ
 else Ps Θ
mutual
inductive CanF:Fm->Prop
 |tru (b:Bool):CanF (Ps b)
 |atom (l:Lf) (e:Bool) (h:l.pln=l):CanF (Fx l e)
 |no (x:Fm) (h:CanF x):CanF (kF 3 [x])
 |and (l:List Fm) (h:CanFs l):CanF (kF 4 l)
 |or (l:List Fm) (h:CanFs l):CanF (kF 5 l)
 |no0:CanF (kF 3 [])
inductive CanFs:List Fm->Prop
 |nil:CanFs []
 |cons {x:Fm} {r:List Fm} (h:CanF x) (hr:CanFs r):CanFs (x::r)
end
mutual
theorem CanF.clone:∀{x:Fm},CanF x->Bn x=x
 |_,.tru b=>by cases b<;>rfl
 |_,.atom l e h=>by
  unfold Fx;rw[Bn,Ab (by decide),Ac rfl,E6,h];rfl
 |_,.no x h=>by
  unfold kF;rw[Bn,Ab (by decide),Ab (by decide),Ac rfl,PB,h.clone];rfl
 |_,.and l h=>by
  unfold kF;rw[Bn,Ab (by decide),Ab (by decide),Ab (by decide),Ac (.inl rfl),h.clone];rfl
 |_,.or l h=>by
  unfold kF;rw[Bn,Ab (by decide),Ab (by decide),Ab (by decide),Ac (.inr rfl),h.clone];rfl
 |_,.no0=>rfl
theorem CanFs.clone:∀{l:List Fm},CanFs l->KN l=l
 |_,.nil=>rfl
 |_,.cons h hr=>by rw[KN,h.clone,hr.clone]
end
theorem Eo(l r:Lf):(l.sub r).pln=l.sub r:=AkD _
theorem AeP(op:Int)(l r:Lf):CanF (VK op l r):=by
 unfold VK
 repeat' split
 .exact .atom _ _ (Eo _ _)
 .exact .no _ (.atom _ _ (Eo _ _))
 .exact .atom _ _ (Eo _ _)
 .exact .atom _ _ (Eo _ _)
 .exact .atom _ _ (Eo _ _)
 .exact .atom _ _ (Eo _ _)
 .exact .tru _
def or2(a b:Int):Int:=if a=0 then b else a
theorem Q5{a b:Int}:or2 a b=0 ↔ a=0/\b=0:=by
 unfold or2;split<;>simp_all
theorem KO{a b:Int}:GU a b=0 ↔ a=b:=by
 grind [GU]
def Ss(p q:Int × Int):Int:=or2 (GU p.1 q.1) (GU p.2 q.2)
theorem Qg{p q:Int × Int}:Ss p q=0 ↔ p=q:=by
 grind [Ss,Prod.ext_iff,KO,Q5]
def MK:List (Int × Int)->List (Int × Int)->Option Int
 |[],_=>none
 |_::_,[]=>V 1
 |p::a,q::b=>if Ss p q=0 then MK a b else V (Ss p q)
def VM(a b:List (Int × Int)):Int:=match MK a b with
 |some n=>n
 |none=>if a.length<b.length then -1 else 0
theorem Aaq:∀{a b:List (Int × Int)} {n:Int},MK a b=V n->n≠0
 |[],_,_,h=>by cases h
 |_::_,[],n,h=>by
  grind [MK]
 |p::a,q::b,n,h=>by
  rw[MK]at h;split at h
  .exact Aaq h
  .grind
theorem Sq:∀{a b:List (Int × Int)},MK a b=none->¬ a.length<b.length->a=b
 |[],b,_,h=>by
  simp_all
 |_::_,[],h,_=>by cases h
 |p::a,q::b,h,hl=>by
  rw[MK]at h;split at h
  .rename_i h0
   rw[Qg.1 h0,Sq h (by simpa using hl)]
  .cases h
theorem Sr:∀ a:List (Int × Int),MK a a=none
 |[]=>rfl
 |p::a=>by rw[MK,Ac (Qg.2 rfl),Sr a]
theorem Yx{a b:List (Int × Int)}:VM a b=0 ↔ a=b:=by
 unfold VM;constructor
 .intro h
  cases e:MK a b with
  |some n=>
   rw[e]at h;exact absurd h (Aaq e)
  |none=>
   rw[e]at h;refine Sq e λhl=>?_
   simp only[Ac hl]at h;omega
 .rintro rfl
  rw[Sr];simp
def Acm(a b:Lf):Int:=or2 (VM a.ps b.ps) (GU a.k b.k)
theorem Acn{a b:Lf}:Acm a b=0 ↔ a=b:=by
 obtain⟨p,k⟩:=a;obtain⟨q,j⟩:=b;unfold Acm;rw[Q5,Yx,KO];simp
def Abv(e:Bool):Int:=if e then 1 else 0
def Uh(a b:Lf)(e f:Bool):Int:=or2 (Acm a b) (GU (Abv e) (Abv f))
theorem Sp{a b:Lf}{e f:Bool}:Uh a b e f=0 ↔ a=b/\e=f:=by
 grind [Uh,Abv,Acn,KO,Q5]
mutual
def X9:Fm->Fm->Bool
 |.mk k t e ks,.mk j u f js=>decide (k=j)&&(!decide (k=2)||decide (Uh t.lf.pln u.lf.pln e f=0))&&decide (ks.length=js.length)&&Ld ks js
def Ld:List Fm->List Fm->Bool
 |[],_=>U
 |_::_,[]=>Θ
 |x::a,y::b=>X9 x y&&Ld a b
end
theorem YP(k j:Int)(t u:Tm)(e f:Bool)(ks js:List Fm):X9 (.mk k t e ks) (.mk j u f js)=(decide (k=j)&&(!decide (k=2)||decide (Uh t.lf.pln u.lf.pln e f=0))&&decide (ks.length=js.length)&&Ld ks js):=by
 rw[X9]
theorem NU(x y:Fm)(a b:List Fm):Ld (x::a) (y::b)=(X9 x y&&Ld a b):=by rw[Ld]
mutual
theorem VV:∀ x:Fm,X9 x x=U
 |.mk k t e ks=>by
  rw[YP,Sw ks,Sp.2 ⟨rfl,rfl⟩];simp
theorem Sw:∀ l:List Fm,Ld l l=U
 |[]=>by rw[Ld]
 |x::r=>by rw[NU,VV x,Sw r];rfl
end
theorem CanFs.mem:∀{l:List Fm},CanFs l->∀ x∈l,CanF x
 |_::_,.cons h hr,x,hx=>by
  rcases Awt.1 hx with rfl|hx
  .exact h
  .exact hr.mem x hx
theorem CanF.kids{x:Fm}(h:CanF x):∀ y∈x.kids,CanF y:=by
 cases h with
 |tru b=>intro y hy;cases b<;>cases hy
 |atom l e h=>intro y hy;cases hy
 |no x h=>intro y hy;rcases AwY.1 hy with rfl;exact h
 |and l h=>exact h.mem
 |or l h=>exact h.mem
 |no0=>intro y hy;cases hy
theorem CanF.head{x:Fm}(h:CanF x):(x.kind=2/\x.kids=[]/\∃ l:Lf,l.pln=l/\x.tm=l.tm)\/(x.kind≠2/\x.tm=Tm0/\x.eq=Θ):=by
 cases h with
 |tru b=>exact .inr ⟨by cases b<;>decide,rfl,rfl⟩
 |atom l e h=>exact .inl ⟨rfl,rfl,l,h,rfl⟩
 |no x h=>exact .inr ⟨by show (3:Int)≠2;decide,rfl,rfl⟩
 |and l h=>exact .inr ⟨by show (4:Int)≠2;decide,rfl,rfl⟩
 |or l h=>exact .inr ⟨by show (5:Int)≠2;decide,rfl,rfl⟩
 |no0=>exact .inr ⟨by show (3:Int)≠2;decide,rfl,rfl⟩
theorem AjA:∀ n:Nat,(∀ x y:Fm,SizeOf.sizeOf x<n->CanF x->CanF y->X9 x y=U->x=y)/\(∀ a b:List Fm,SizeOf.sizeOf a<n->(∀ x∈a,CanF x)->(∀ x∈b,CanF x)->a.length=b.length->Ld a b=U->a=b):=by
 intro n
 induction n with
 |zero=>exact⟨λx y h=>by omega,λa b h=>by omega⟩
 |succ n ih=>
  refine⟨λx y hn hx hy h=>?_,λa b hn ha hb hl h=>?_⟩
  .have kx:=hx.kids
   have ky:=hy.kids;have dx:=hx.head;have dy:=hy.head;obtain⟨k,t,e,ks⟩:=x;obtain⟨j,u,f,js⟩:=y;rw[YP]at h;simp only[η,decide_eq_true_eq]at h;obtain⟨⟨⟨rfl,h2⟩,hl⟩,hs⟩:=h;have e1:=ih.2 ks js (by simp only[Fm.mk.sizeOf_spec]at hn;omega) kx ky hl hs;simp only[Fm.kind,Fm.kids,Fm.tm,Fm.eq]at dx dy;subst e1;rcases dx with⟨d0,_,l,hp,rfl⟩|⟨d0,rfl,rfl⟩
   .rcases dy with⟨_,_,m,hq,rfl⟩|⟨d1,_⟩
    .subst d0
     rw[E6,E6,hp,hq]at h2;have:=Sp.1 (by simpa using h2);rw[this.1,this.2]
    .exact absurd d0 d1
   .grind
  .cases a with
   |nil=>cases b with
    |nil=>rfl
    |cons _ _=>cases hl
   |cons x a=>cases b with
    |nil=>cases hl
    |cons y b=>
     rw[NU,η]at h;have hz:SizeOf.sizeOf (x::a)=1+SizeOf.sizeOf x+SizeOf.sizeOf a:=rfl;rw[ih.1 x y (by omega) (ha x (AwS ..)) (hb y (AwS ..)) h.1,ih.2 a b (by omega) (λz hz=>ha z (AwU _ hz)) (λz hz=>hb z (AwU _ hz)) (by simpa using hl) h.2]
theorem AjB{x y:Fm}(hx:CanF x)(hy:CanF y):X9 x y=U ↔ x=y:=⟨(AjA _).1 x y (Nat.lt_succ_self _) hx hy,by rintro rfl;exact VV x⟩
def Ht:List (Int × Int)->Int × Int->List (Int × Int)
 |[],p=>if p.1<0 then [] else [p]
 |q::r,p=>if p.1<0 then q::r else if q.1=p.1 then(q.1,q.2+p.2)::r else p::q::r
theorem If(p:Int × Int):Ht [] p=if p.1<0 then [] else [p]:=rfl
theorem Gj(q:Int × Int)(r:List (Int × Int))(p:Int × Int):Ht (q::r) p=if p.1<0 then q::r else if q.1=p.1 then(q.1,q.2+p.2)::r else p::q::r:=rfl
structure GrpI (s t:List (Int × Int)):Prop where
 desc:s.Pairwise λa b=>b.1<a.1
 pos:∀ q∈s,0<=q.1
 up:∀ q∈s,∀ p∈t,0<=p.1->q.1<=p.1
theorem AcD(v:Int)(hv:0<=v):∀(s:List (Int × Int)) (p:Int × Int),Bm v (Ht s p)=Bm v s+(if p.1=v then p.2 else 0)
 |[],p=>by
  rw[If];split
  .omega
  .simp[Bm]
 |q::r,p=>by
  rw[Gj];split
  .rw[Ab (by omega)];omega
  .grind [Bm]
theorem AfX{s t:List (Int × Int)}{p:Int × Int}(h:GrpI s (p::t))(ht:∀ x∈t,p.1<=x.1):GrpI (Ht s p) t:=by
 have ut:∀ q∈s,∀ x∈t,0<=x.1->q.1<=x.1:=λq hq x hx=>h.up q hq x (AwU _ hx)
 cases s with
 |nil=>
  rw[If];split
  .exact⟨.nil,by simp,by simp⟩
  .exact⟨Ayc _ _,by simp;omega,λq hq x hx _=>by rw[AwY.1 hq];exact ht x hx⟩
 |cons q r=>
  have hd:=Aw2.1 h.desc;rw[Gj];split
  .exact⟨h.desc,h.pos,ut⟩
  .rename_i hp
   split
   .refine⟨Aw2.2 ⟨λx hx=>hd.1 x hx,hd.2⟩,λx hx=>?_,λx hx y hy hy0=>?_⟩
    .rcases Awt.1 hx with rfl|hx
     .omega
     .exact h.pos x (AwU _ hx)
    .grind
   .rename_i hne
    have hq:=h.up q (AwS ..) p (AwS ..) (by omega);refine⟨Aw2.2 ⟨λx hx=>?_,h.desc⟩,λx hx=>?_,λx hx y hy hy0=>?_⟩
    .grind
    .rcases Awt.1 hx with rfl|hx
     .omega
     .exact h.pos x hx
    .grind
theorem AaE:∀(t s:List (Int × Int)),t.Pairwise (λa b=>a.1<=b.1)->GrpI s t->GrpI (t.foldl Ht s) []/\∀ v,0<=v->Bm v (t.foldl Ht s)=Bm v s+Bm v t
 |[],s,_,h=>⟨h,λv _=>by simp[Bm]⟩
 |p::t,s,ht,h=>by
  have hp:=Aw2.1 ht;obtain⟨g1,g2⟩:=AaE t (Ht s p) hp.2 (AfX h hp.1);refine⟨g1,λv hv=>?_⟩;rw[Aye,g2 v hv,AcD v hv,Bm];omega
theorem VQ(v:Int):∀ l:List (Int × Int),Bm v (l.filter λp=>!decide (p.2=0))=Bm v l
 |[]=>rfl
 |p::r=>by
  have ih:=VQ v r
  by_cases h:p.2=0
  .grind [Bm]
  .grind [Bm]
theorem AjP{t l:List (Int × Int)}(ht:t.Pairwise λa b=>a.1<=b.1)(hp:t.Perm l):((t.foldl Ht []).reverse).filter (λp=>!decide (p.2=0))=FL l:=by
 obtain⟨g1,g2⟩:=AaE t [] ht ⟨.nil,by simp,by simp⟩;refine Q8 ⟨?_,λp h=>?_,λp h=>?_⟩ λv hv=>?_
 .refine List.Pairwise.filter _ ?_
  rw[List.pairwise_reverse];exact g1.desc
 .have:=(AyJ.1 h).1
  exact g1.pos p (List.mem_reverse.1 this)
 .simpa using (AyJ.1 h).2
 .first|grind [Bm,VQ,Qh] | grind [Bm,List.reverse_perm,VQ,Qh]
theorem V5{k:Nat}{s:List (Int × Int)}{p:Int × Int}(hs:∀ q∈s,InB k q.2)(hp:InB k p.2):∀ q∈Ht s p,InB (k+1) q.2:=by
 cases s with
 |nil=>
  rw[If];split
  .simp
  .intro q hq
   rw[AwY.1 hq];exact hp.mono (by omega)
 |cons q r=>
  rw[Gj];have hq:=hs q (AwS ..);have hr:∀ x∈r,InB (k+1) x.2:=λx hx=>(hs x (AwU _ hx)).mono (by omega)
  split
  .intro x hx
   rcases Awt.1 hx with rfl|hx
   .exact hq.mono (by omega)
   .exact hr x hx
  .split
   .grind [InB.add]
   .intro x hx
    rcases Awt.1 hx with rfl|hx
    .exact hp.mono (by omega)
    .rcases Awt.1 hx with rfl|hx
     .exact hq.mono (by omega)
     .exact hr x hx
theorem V6(s:List (Int × Int))(p:Int × Int):(Ht s p).length<=s.length+1:=by
 cases s with
 |nil=>rw[If];split<;>simp
 |cons q r=>
  rw[Gj];split
  .simp
  .split<;>simp
theorem GI(x:Nat):Ak.conv .u32 (x:Int)=((x % 4294967296:Nat):Int):=by
 show IntKind.u32.wrap (x:Int)=_
 rw[IntKind.wrap_u32];omega
theorem BT{x:Nat}(h:x<4294967296):Ak.conv .u32 (x:Int)=(x:Int):=by rw[GI,AxZ h]
theorem Ck{x:Nat}(h:x<18446744073709551616):Ak.conv .u64 (x:Int)=(x:Int):=by
 show IntKind.u64.wrap (x:Int)=_
 rw[IntKind.wrap_u64];omega
theorem DX{x y:Nat}(h:x+y<18446744073709551616):Ak.add .u64 (x:Int) (y:Int)=((x+y:Nat):Int):=by
 show IntKind.u64.wrap ((x:Int)+(y:Int))=_
 rw[IntKind.wrap_u64];omega
theorem I4{x y:Nat}(h:y<=x)(h2:x<18446744073709551616):Ak.sub .u64 (x:Int) (y:Int)=((x-y:Nat):Int):=by
 show IntKind.u64.wrap ((x:Int)-(y:Int))=_
 rw[IntKind.wrap_u64];omega
theorem U1{x y:Nat}(h:x*y<18446744073709551616):Ak.mul .u64 (x:Int) (y:Int)=((x*y:Nat):Int):=by
 show IntKind.u64.wrap ((x:Int)*(y:Int))=_
 rw[IntKind.wrap_u64,←AyH];omega
theorem Ng(x:Nat):Ak.shr .u64 (x:Int) 32=((x / 4294967296:Nat):Int):=by
 show Int.fdiv (x:Int) (2 ^ 32)=_
 have:(2 ^ 32:Int)=((4294967296:Nat):Int):=by decide
 rw[this,Int.fdiv_eq_ediv_of_nonneg _ (by omega)];rfl
theorem Abu(x y:Nat):Ak.add .u32 (x:Int) (y:Int)=(((x+y) % 4294967296:Nat):Int):=by
 show IntKind.u32.wrap ((x:Int)+(y:Int))=_
 rw[IntKind.wrap_u32];omega
theorem PL(x y:Nat):Ak.mul .u32 (x:Int) (y:Int)=(((x*y) % 4294967296:Nat):Int):=by
 show IntKind.u32.wrap ((x:Int)*(y:Int))=_
 rw[IntKind.wrap_u32,←AyH];omega
theorem As5{i j:Nat}(h:j<=i)(h2:i<4611686018427387904):Ak.sub .i64 (i:Int) (j:Int)=((i-j:Nat):Int):=by
 rw[Ip (by omega) (by omega)];omega
theorem AoR{i j:Nat}(h2:i+j<4611686018427387904):Ak.add .i64 (i:Int) (j:Int)=((i+j:Nat):Int):=by
 rw[J8 (by omega) (by omega)];omega
theorem IM(kd:IntKind)(n:Int)(r:Ad)(k:Int->Ad->KR):FU kd (.v (.int kd n)::r) k=k n r:=by simp[FU]
theorem Vq(kd:IntKind)(n:Int)(k:Int->KR):KD kd (.v (.int kd n)) k=k n:=by simp[KD]
theorem Acr(n:Nat)(k:Int->Ad->KR)(r:Ad):FU .u32 (.v (.int .u32 (n:Int))::r) k=k n r:=rfl
theorem AbW(l:Aj):Hk 1 (l.map eL)=U:=IE A2 l
theorem Ap2(l:Aj):M9 (LS (l.map eL))=U:=by rw[Gu];exact Na (λ_=>rfl) l
theorem Akt(l:Aj):A4 (LS (l.map eL))=U:=by
 rw[Gu]
 induction l with
 |nil=>rfl
 |cons x r ih=>exact ih
theorem XR(l:Aj)(n:Nat):JJ (Kz (l.map eL) n) 0=(l.take n).map eL:=by
 rw[KA,JK,κ,AzO]
theorem JB:∀(a b:Aj) (c:Nat),(NG c a b).length=a.length+1
 |[],_,_=>rfl
 |x::a,b,c=>by rw[NG,π,JB a,π]
theorem Qf{a b:Nat}(h:(AY a).length<(AY b).length):a<b:=by
 by_cases h2:a<b
 .exact h2
 .have h3:AE b=AE b:=rfl
  have h4:0<(AY b).length:=by omega
  have hb:4294967296 ^ ((AY b).length-1)<=b:=by
   by_cases h5:4294967296 ^ ((AY b).length-1)<=b
   .exact h5
   .have:=BS (n:=b) (k:=(AY b).length-1) (by omega)
    omega
  have h6:=WN (n:=a) (k:=(AY b).length-1) (by omega);omega
def Db(l:Aj):Prop:=l.length<=1000000000
theorem I0{l:Aj}(h:Limbs l)(h2:Db l):Db (AY (Am l)):=by
 unfold Db at *;rw[JX l h];have:=EY l;omega
structure CloneF (D:Orc):Prop where
 nat:∀ l:Aj,Db l->D.ask (.fn 240) [eN l] []=V (.sl 0 0 l.length 1,[.set (θ (Av eL l) U U)])
theorem Acj{l:Aj}(h:Db l):Lg 1 (DC 1 4) [eN l] []=V (.sl 0 0 l.length 1,[.set (θ (Av eL l) U U)]):=by
 unfold Lg DC eN;have h4:Aww (AU (l.map eL)*4) 140737488355328=U:=by
  rw[Al];unfold Db at h;simp;omega
 simp only[AbW,Ap2,Akt,h4,Bool.and_true,if_true,Option.map_some];rw[Al,Gu]
section
variable {D:Orc} (K:Knows Ah O1 D)
include K
theorem Alg(l:Aj)(hl:Db l):∀(n:Nat),n<=l.length->DU l<=n->D.ask (.lp 204 0) [eN l,iv (n:Int)] []=V (.tup [iv 0,eN l,iv (DU l:Int)],[]):=by
 intro n;have hl':=hl;unfold Db at hl'
 induction n with
 |zero=>
  intro _ ht;refine Ax K Wm (Afd ..) ?_;refine Ap ?_;rw[show DU l=0 by omega];rfl
 |succ n ih=>
  intro hn ht;refine Ax K Wm (Afd ..) ?_;refine Au ?_;rw[show Ak.sub .i64 ((n+1:Nat):Int) 1=(n:Int) from (As5 (i:=n+1) (j:=1) (by omega) (by omega)).trans (by simp)];rw[AD,AA (Ψ (show n<l.length by omega))];simp only[eL,Acr,Ae]
  by_cases h0:l[n]=0
  .refine Aw ?_ (by rw[h0];rfl)
   refine Aa (ih (by omega) (TI ht (by rw[Ψ (show n<l.length by omega),h0]))) ?_;rfl
  .refine As ?_
   have:=Vn (Ψ (show n<l.length by omega)) h0;rw[show DU l=n+1 by omega];rfl
theorem Gc{l:Aj}(hl:Db l)(h:Limbs l):D.ask (.fn 204) [eN l] []=V (eN (AY (Am l)),[]):=by
 refine Ao K Wm (Auu ..) ?_;rw[Al];refine Aa (Alg K l hl _ (ω _) (EY l)) ?_;simp only[eN,Ae];rw[AD,Al,AbW,XR,Nw h];rw[show Lr 0 (DU l) l.length=U by unfold Lr;rw[show Aww 0 (DU l)=U by simp];simpa using EY l];rfl
variable (C:CloneF D)
include C
theorem II{l:Aj}(hl:Db l)(h:Limbs l):D.ask (.fn 200) [eN l] []=V (eN (AY (Am l)),[]):=by
 refine Ao K AmJ (Aus ..) ?_;refine Aa (Gc K hl h) ?_;simp only[eN,Ae];have g:=C.nat _ (I0 h hl);unfold eN at g;refine Aa g ?_;simp only[Ae];rw[AJ A2 _ (by omega)];refine Af ?_;rw[BQ A2 _ rfl]
theorem AlA(n:Nat)(h:n<18446744073709551616):D.ask (.fn 146) [.v (.int .u64 (n:Int))] []=V (eN (AY n),[]):=by
 refine Ao K Amn (AtV ..) ?_;refine Ap ?_ (by decide);rw[GI,Ng,GI];have hl:Limbs [n % 4294967296,n / 4294967296 % 4294967296]:=B6 (Ax1 _ (by omega)) (B6 (Ax1 _ (by omega)) Cn);have g:=II K C (l:=[n % 4294967296,n / 4294967296 % 4294967296]) (by unfold Db;simp) hl;rw[show Am [n % 4294967296,n / 4294967296 % 4294967296]=n by simp only[Am];omega]at g;refine Aa g ?_;rfl
omit C in
theorem AoM(a b:Aj)(ha:Limbs a)(hb:Limbs b)(hab:a.length=b.length)(hs:Db a):∀(n:Nat),n<=a.length->D.ask (.lp 205 0) [eN a,eN b,iv ((n:Int)-1)] []
  = V (if Ep (Am (a.take n)) (Am (b.take n))=0 then .tup [iv 1] else .tup [bv U,iv (Ep (Am (a.take n)) (Am (b.take n)))],[]):=by
 intro n;unfold Db at hs
 induction n with
 |zero=>
  intro _;refine Ax K Wn (Afe ..) ?_;refine Cm ?_;rfl
 |succ n ih=>
  intro hn;refine Ax K Wn (Afe ..) ?_;rw[show (((n+1:Nat):Int)-1)=(n:Int) by omega];refine Cg ?_;have h1:n<a.length:=by omega
  have h2:n<b.length:=by omega
  have e1:a.take (n+1)=a.take n++[a[n]]:=by rw[Axt h1]
  have e2:b.take (n+1)=b.take n++[b[n]]:=by rw[Axt h2]
  rw[e1,e2,VN (ha.take n) (hb.take n) (by simp;omega)];simp only[AD,AA (Ψ h1),AA (Ψ h2),eL,Acr,Ae]
  by_cases h3:a[n]<b[n]
  .refine Au ?_
   rw[Ac h3];rfl
  .refine Ap ?_
   rw[Ab h3]
   by_cases h4:b[n]<a[n]
   .refine Au ?_
    rw[Ac h4];rfl
   .refine Ap ?_
    rw[Ab h4];rw[show Ak.sub .i64 (n:Int) 1=(n:Int)-1 from Ip (by omega) (by omega)];refine Aa (ih (by omega)) ?_
    by_cases h5:Ep (Am (a.take n)) (Am (b.take n))=0
    .rw[Ac h5];rfl
    .rw[Ab h5];rfl
omit C in
theorem Yc{a b:Aj}(hsa:Db a)(ha:Limbs a)(hsb:Db b)(hb:Limbs b):D.ask (.fn 205) [eN a,eN b] []=V (iv (Ep (Am a) (Am b)),[]):=by
 have s1:=I0 ha hsa;have s2:=I0 hb hsb;unfold Db at s1 s2;refine Ao K Wn (Auv ..) ?_;refine Aa (Gc K hsa ha) ?_;simp only[eN,Ae];refine Aa (Gc K hsb hb) ?_;simp only[eN,Ae,Al];generalize Am a=x at *;generalize Am b=y at *
 by_cases h1:(AY x).length<(AY y).length
 .refine Au ?_
  have:=Qf h1;unfold Ep;rw[Ac this]
 .refine Ap ?_
  by_cases h2:(AY y).length<(AY x).length
  .refine Au ?_
   have:=Qf h2;unfold Ep;rw[Ab (by omega),Ac this]
  .refine Ap ?_
   have hx:(AY x).length=(AY y).length:=by omega
   have g:=AoM K (AY x) (AY y) (AE x) (AE y) hx s1 (AY x).length (ω _);rw[AxD,hx,AxD,A0,A0]at g;rw[show Ak.sub .i64 ((AY x).length:Int) 1=((AY x).length:Int)-1 from Ip (by omega) (by omega),hx];refine Aa g ?_
   by_cases h5:Ep x y=0
   .rw[Ac h5,h5];rfl
   .rw[Ab h5];rfl
omit C in
theorem Aem(b:Aj)(hb:Limbs b)(a:Aj)(ha:Limbs a)(hs:Db a):∀(k i:Nat) (out:Aj) (c:Nat),a.length-i=k->i<=a.length->b.length<=a.length->c<=1->out.length+k<=2000000000->
  ∃(o:Aj) (c':Nat),D.ask (.lp 149 0) [eN b,.sl 0 0 out.length 1,.v (.int .u64 (c:Int)),eN a,iv (a.length:Int),iv (i:Int)] [θ (Av eL out) U U]
   = V (.tup [iv 0,.sl 1 0 o.length 1,.v (.int .u64 (c':Int))],[.del,.set (θ (Av eL o) U U)])/\c'<=1/\o++[c']=out++NG c (a.drop i) (b.drop i):=by
 intro k;unfold Db at hs
 induction k with
 |zero=>
  intro i out c hi hle hba hc ho;refine⟨out,c,?_,hc,?_⟩
  .refine Ax K We (Ae1 ..) ?_
   refine Ap ?_;rfl
  .rw[show a.drop i=[] from υ (by omega)]
   rfl
 |succ k ih=>
  intro i out c hi hle hba hc ho;have hlt:i<a.length:=by omega
  have hx:=ha.get hlt;have hbd:=Gy (hb.drop i);have hdt:(b.drop i).tail=b.drop (i+1):=by rw[Ayh]
  rw[show a.drop i=a[i]::a.drop (i+1) from χ hlt];obtain⟨o,c',h1,h2,h3⟩:=ih (i+1) (out++[(a[i]+(b.drop i).headD 0+c) % 4294967296]) ((a[i]+(b.drop i).headD 0+c) / 4294967296) (by omega) (by omega) hba (by omega) (by simp;omega);refine⟨o,c',?_,h2,?_⟩
  .refine Ax K We (Ae1 ..) ?_
   refine Au ?_;rw[AD,AA (Ψ hlt)];have hf:Bh (out.length+1) 4=U:=AL (by omega) (by omega);have hb1:Aww (0+out.length*1) (Av eL out).length=U:=AJ A2 out (by omega);have e3:∀ s:Nat,Awv 0 (Aws (0+out.length*1) (Av eL out))++[.v (.int .u32 (s:Int))]=Av eL (out++[s]):=λs=>by
    rw[κ,A9 A2 out (by omega)];exact A8 eL out s
   rw[ζ,Aw5]at h1;simp only[eL,Acr,Ae,Al];rw[Bv (by omega)]
   by_cases hib:i<b.length
   .have hd:(b.drop i).headD 0=b[i]:=by rw[χ hib];rfl
    rw[hd]at h1 hbd;refine Au ?_;rw[AD,AA (Ψ hib)];simp only[eL,Acr,Ae];rw[Ck (by omega),Ck (by omega),DX (by omega),DX (by omega),GI,Ng,hf,hb1,e3];rw[show a[i]+c+b[i]=a[i]+b[i]+c by omega];refine Af ?_;refine Af ?_;refine Ap ?_ (by decide);refine Aa h1 ?_;rfl
   .have hd:(b.drop i).headD 0=0:=by rw[υ (by omega)];rfl
    rw[hd]at h1;refine Ap ?_;rw[Ck (by omega),DX (by omega),GI,Ng,hf,hb1,e3];rw[show a[i]+c=a[i]+0+c by omega];refine Af ?_;refine Af ?_;refine Ap ?_ (by decide);refine Aa h1 ?_;rfl
  .rw[h3,NG,hdt,Awr]
   rfl
theorem AoK{a b:Aj}(hsa:a.length<=999999999)(ha:Limbs a)(hsb:b.length<=999999999)(hb:Limbs b):D.ask (.fn 149) [eN a,eN b] []=V (eN (AY (Am a+Am b)),[]):=by
 have s1:=I0 ha (by unfold Db;omega);have s2:=I0 hb (by unfold Db;omega);have t1:(AY (Am a)).length<=999999999:=by rw[JX a ha];have:=EY a;omega
 have t2:(AY (Am b)).length<=999999999:=by rw[JX b hb];have:=EY b;omega
 refine Ao K We (AtY ..) ?_;refine Aa (Gc K (by unfold Db;omega) ha) ?_;simp only[eN,Ae];refine Aa (Gc K (by unfold Db;omega) hb) ?_;simp only[eN,Ae,Al];generalize Am a=x at *;generalize Am b=y at *
 by_cases h1:(AY x).length<(AY y).length
 .refine Au ?_
  have hl:Limbs (NG 0 (AY y) (AY x)):=LK _ _ _ (AE _) (AE _) (by omega);obtain⟨o,c',g,hc,ho⟩:=Aem K (AY x) (AE x) (AY y) (AE y) s2 (AY y).length 0 [] 0 (by omega) (by omega) (by omega) (by omega) (by unfold Db at s2;simp;omega);rw[AwC,κ,κ]at ho;have hol:o.length=(AY y).length:=by
   have:=congrArg AyO ho;rw[ζ,JB]at this;simpa using this
  have hsx:=s2;unfold Db at hsx;rw[show Ak.add .i64 ((AY y).length:Int) 1=(((AY y).length+1:Nat):Int) from Bv (by omega),AD];rw[AL (n:=(AY y).length+1) (b:=4) (by omega) (by omega)];refine Af ?_;refine Aa g ?_;simp only[IM,Ae];rw[BT (by omega)];have e3:Awv 0 (Aws (0+o.length*1) (Av eL o))++[.v (.int .u32 (c':Int))]=Av eL (o++[c']):=by
   rw[κ,A9 A2 o (by omega)];exact A8 eL o c'
  rw[AL (n:=o.length+1) (b:=4) (by omega) (by omega),AJ A2 o (by omega),e3,AJ A2 (o++[c']) (by simp)];refine Af ?_;refine Af ?_;refine Af ?_;rw[κ,A9 A2 (o++[c']) (by simp),show By (o.length+1) 1 (Av eL (o++[c']))=(o++[c']).map eL from by have:=DG A2 (o++[c']);rwa [ζ]at this];rw[ho];have gt:=II K C (l:=NG 0 (AY y) (AY x)) (by unfold Db;rw[JB];omega) hl;rw[Ot _ _ _ (by omega),A0,A0]at gt;refine Aa gt ?_;rw[show 0+y+x=x+y by omega];rfl
 .refine Ap ?_
  have hl:Limbs (NG 0 (AY x) (AY y)):=LK _ _ _ (AE _) (AE _) (by omega);obtain⟨o,c',g,hc,ho⟩:=Aem K (AY y) (AE y) (AY x) (AE x) s1 (AY x).length 0 [] 0 (by omega) (by omega) (by omega) (by omega) (by unfold Db at s1;simp;omega);rw[AwC,κ,κ]at ho;have hol:o.length=(AY x).length:=by
   have:=congrArg AyO ho;rw[ζ,JB]at this;simpa using this
  have hsx:=s1;unfold Db at hsx;rw[show Ak.add .i64 ((AY x).length:Int) 1=(((AY x).length+1:Nat):Int) from Bv (by omega),AD];rw[AL (n:=(AY x).length+1) (b:=4) (by omega) (by omega)];refine Af ?_;refine Aa g ?_;simp only[IM,Ae];rw[BT (by omega)];have e3:Awv 0 (Aws (0+o.length*1) (Av eL o))++[.v (.int .u32 (c':Int))]=Av eL (o++[c']):=by
   rw[κ,A9 A2 o (by omega)];exact A8 eL o c'
  rw[AL (n:=o.length+1) (b:=4) (by omega) (by omega),AJ A2 o (by omega),e3,AJ A2 (o++[c']) (by simp)];refine Af ?_;refine Af ?_;refine Af ?_;rw[κ,A9 A2 (o++[c']) (by simp),show By (o.length+1) 1 (Av eL (o++[c']))=(o++[c']).map eL from by have:=DG A2 (o++[c']);rwa [ζ]at this];rw[ho];have gt:=II K C (l:=NG 0 (AY x) (AY y)) (by unfold Db;rw[JB];omega) hl;rw[Ot _ _ _ (by omega),A0,A0]at gt;refine Aa gt ?_;rw[show 0+x+y=x+y by omega];rfl
omit C in
theorem AoQ(b:Aj)(hb:Limbs b)(a:Aj)(ha:Limbs a)(hs:Db a):∀(k i:Nat) (out:Aj) (c:Nat),a.length-i=k->i<=a.length->c<=1->out.length+k<=2000000000->
  D.ask (.lp 150 0) [eN b,.sl 0 0 out.length 1,.v (.int .u64 (c:Int)),eN a,iv (a.length:Int),iv (i:Int)] [θ (Av eL out) U U]
   = V (.tup [iv 0,.sl 1 0 (out++Ja c (a.drop i) (b.drop i)).length 1],[.del,.set (θ (Av eL (out++Ja c (a.drop i) (b.drop i))) U U)]):=by
 intro k;unfold Db at hs
 induction k with
 |zero=>
  intro i out c hi hle hc ho;refine Ax K Wf (Ae2 ..) ?_;refine Ap ?_;rw[show a.drop i=[] from υ (by omega)];simp only[Ja,List.append_nil]
  all_goals rfl
 |succ k ih=>
  intro i out c hi hle hc ho;have hlt:i<a.length:=by omega
  have hx:=ha.get hlt;have hbd:=Gy (hb.drop i);have hdt:(b.drop i).tail=b.drop (i+1):=by rw[Ayh]
  rw[show a.drop i=a[i]::a.drop (i+1) from χ hlt,Ja,hdt];have h1:=ih (i+1) (out++[if a[i]<(b.drop i).headD 0+c then a[i]+4294967296-((b.drop i).headD 0+c) else a[i]-((b.drop i).headD 0+c)]) (if a[i]<(b.drop i).headD 0+c then 1 else 0) (by omega) (by omega) (by split<;>omega) (by simp;omega);rw[Awr,ζ,Aw5]at h1;refine Ax K Wf (Ae2 ..) ?_;refine Au ?_;rw[AD,AA (Ψ hlt)];have hf:Bh (out.length+1) 4=U:=AL (by omega) (by omega);have hb1:Aww (0+out.length*1) (Av eL out).length=U:=AJ A2 out (by omega);have e3:∀ s:Nat,Awv 0 (Aws (0+out.length*1) (Av eL out))++[.v (.int .u32 (s:Int))]=Av eL (out++[s]):=λs=>by
   rw[κ,A9 A2 out (by omega)];exact A8 eL out s
  simp only[eL,Acr,Ae,Al];rw[Bv (by omega)]
  by_cases hib:i<b.length
  .have hd:(b.drop i).headD 0=b[i]:=by rw[χ hib];rfl
   rw[hd]at h1 hbd;rw[hd];refine Au ?_;rw[AD,AA (Ψ hib)];simp only[eL,Acr,Ae];rw[Ck (show a[i]<_ by omega),Ck (show b[i]<_ by omega),DX (by omega)]
   by_cases hlt2:a[i]<b[i]+c
   .refine Au ?_
    rw[Ac hlt2,Ac hlt2]at h1;rw[Ac hlt2,Ac hlt2];rw[show (4294967296:Int)=((4294967296:Nat):Int) from rfl,DX (by omega),show c+b[i]=b[i]+c by omega,I4 (by omega) (by omega),BT (by omega),hf,hb1,e3];refine Af ?_;refine Af ?_;refine Aa h1 ?_;rfl
   .refine Ap ?_
    rw[Ab hlt2,Ab hlt2]at h1;rw[Ab hlt2,Ab hlt2];rw[show c+b[i]=b[i]+c by omega,I4 (by omega) (by omega),BT (by omega),hf,hb1,e3];refine Af ?_;refine Af ?_;refine Aa h1 ?_;rfl
  .have hd:(b.drop i).headD 0=0:=by rw[υ (by omega)];rfl
   rw[hd]at h1;rw[hd];refine Ap ?_;rw[Ck (show a[i]<_ by omega)];rw[AwJ]at h1;simp only[show (0:Nat)+c=c by omega]
   by_cases hlt2:a[i]<c
   .refine Au ?_
    rw[Ac hlt2,Ac hlt2]at h1;rw[Ac hlt2,Ac hlt2];rw[show (4294967296:Int)=((4294967296:Nat):Int) from rfl,DX (by omega),I4 (by omega) (by omega),BT (by omega),hf,hb1,e3];refine Af ?_;refine Af ?_;refine Aa h1 ?_;rfl
   .refine Ap ?_
    rw[Ab hlt2,Ab hlt2]at h1;rw[Ab hlt2,Ab hlt2];rw[I4 (by omega) (by omega),BT (by omega),hf,hb1,e3];refine Af ?_;refine Af ?_;refine Aa h1 ?_;rfl
def Qk(x y:Nat):AV:=if y<=x then .tup [eN (AY (x-y)),bv U] else .tup [eN [],bv Θ]
theorem Aer{a b:Aj}(hsa:Db a)(ha:Limbs a)(hsb:Db b)(hb:Limbs b):D.ask (.fn 150) [eN a,eN b] []=V (Qk (Am a) (Am b),[]):=by
 have s1:=I0 ha hsa;have s2:=I0 hb hsb;refine Ao K Wf (AtZ ..) ?_;refine Aa (Gc K hsa ha) ?_;simp only[eN,Ae];refine Aa (Gc K hsb hb) ?_;simp only[eN,Ae,Al];have gc:=Yc K s1 (AE _) s2 (AE _);rw[A0,A0]at gc;refine Aa gc ?_;simp only[Ae];generalize Am a=x at *;generalize Am b=y at *;unfold Qk;unfold Db at s1 s2
 by_cases h1:x<y
 .rw[show Ep x y=-1 by unfold Ep;rw[Ac h1]]
  refine Au ?_ (by decide);rw[Ab (by omega)];rfl
 .refine Ap ?_ (by unfold Ep;rw[Ab h1];split<;>omega)
  rw[Ac (by omega)];have hle:(AY y).length<=(AY x).length:=by
   by_cases h:(AY x).length<(AY y).length
   .have:=Qf h;omega
   .omega
  rw[AL (n:=(AY x).length) (b:=4) (by omega) (by omega)];refine Af ?_;have g:=AoQ K (AY y) (AE y) (AY x) (AE x) s1 (AY x).length 0 [] 0 (by omega) (by omega) (by omega) (by simp;omega);refine Aa g ?_;simp only[Ae,κ,AwC];rw[AJ A2 _ (by omega)];refine Af ?_;rw[BQ A2 _ rfl];have gt:=II K C (l:=Ja 0 (AY x) (AY y)) (by unfold Db;rw[Nu];exact s1) (Jc _ _ _ (AE _) (AE _) (by omega));rw[XY (AE _) (AE _) hle (by rw[A0,A0];omega),A0,A0]at gt;refine Aa gt ?_;rfl
end
def eC(n:Nat):AV:=.v (.int .u32 (n:Int))
theorem I7:∀ l:Aj,Av eL l=l.map eC
 |[]=>rfl
 |x::r=>by
  have ih:=I7 r;unfold Av at ih ⊢;rw[List.flatMap_cons,ih];rfl
theorem Ty(l:Aj)(i v:Nat)(h:i<l.length):Bq (Av eL l) (0+i*1) [.v (.int .u32 (v:Int))]=Av eL (l.set i v):=by
 rw[I7,I7,Ax6,Ac h];unfold Bq;simp only[AwJ,AyB,List.map_append,List.map_cons,AzO,List.map_drop,Aw5];rw[Awr];rfl
theorem AhL(l:Aj)(i:Nat)(h:i<l.length)(k:Ad->KR):I5 (Av eL l) (0+i*1) 1 k=k [.v (.int .u32 (l[i]:Int))]:=by
 have hx:(Av eL l)[i]? = V (.v (.int .u32 (l[i]:Int))):=by
  rw[I7,List.getElem?_map,Ψ h];rfl
 obtain⟨hl,hx⟩:=List.getElem?_eq_some_iff.1 hx;unfold I5;have:Aww (0+i*1+1) (Av eL l).length=U:=by simp;omega
 rw[this];simp only[AwJ,AyB];rw[χ hl,hx];rfl
theorem AiW(n:Nat):Cx [.v (.int .u32 0)] (n*1)=Av eL (Ayx n 0):=by
 rw[I7,AyB];unfold Cx;rw[List.map_replicate];refine List.ext_getElem (by simp) λi h1 h2=>?_
 simp[AzX,eC]
theorem Tc:∀(x:Nat) (b o:Aj) (c:Nat),(QV x c b o).drop (b.length+1)=o.drop (b.length+1)
 |x,[],o,c=>by
  rw[QV]
  cases o<;>simp
 |x,y::b,o,c=>by
  rw[QV,π,List.drop_succ_cons,Tc x b o.tail]
  cases o with
  |nil=>simp
  |cons z o=>rfl
def JA(j:Nat)(l:Aj):Prop:=∀ y∈l.drop j,y=0
theorem Aeg{j:Nat}{l:Aj}(h:JA j l):(l.drop j).headD 0=0:=by
 unfold JA at h
 cases e:l.drop j with
 |nil=>rfl
 |cons z r=>
  rw[e]at h;exact h z (AwS ..)
theorem Cr{a b:Nat}(h:a<b):Nat.blt a b=U:=by simpa using h
section
variable {D:Orc} (K:Knows Ah O1 D)
include K
theorem AdE(a b:Aj)(hb:Limbs b)(i:Nat)(hi:i<a.length)(hsz:a.length+b.length<=1000000000)(x:Nat)(hx:x<4294967296):∀(m k:Nat) (out:Aj) (c:Nat),b.length-k=m->k<=b.length->Limbs out->c<4294967296->out.length=a.length+b.length->
  ∃(o:Aj) (c':Nat),D.ask (.lp 282 1) [eN b,.sl 0 0 out.length 1,iv (i:Int),.v (.int .u32 (x:Int)),.v (.int .u64 (c:Int)),eN a,iv (a.length:Int),iv (i:Int),eN b,iv (b.length:Int),iv (k:Int)] [θ (Av eL out) U U]
   = V (.tup [iv 2,eN b,.sl 1 0 out.length 1,iv (i:Int),.v (.int .u64 (c':Int)),eN a,iv (a.length:Int),iv (i:Int)],[.del,.set (θ (Av eL o) U U)])
   ∧ c'<4294967296/\Limbs o/\o.length=out.length/\o.set (i+b.length) c'=out.take (i+k)++QV x c (b.drop k) (out.drop (i+k)):=by
 intro m
 induction m with
 |zero=>
  intro k out c hm hk ho hc hlen;obtain rfl:k=b.length:=by omega
  refine⟨out,c,?_,hc,ho,rfl,?_⟩
  .refine Ax K OM (Afu ..) ?_
   refine Ap ?_;rfl
  .rw[List.drop_length,QV,Ax6,Ac (by omega),Ayh]
 |succ m ih=>
  intro k out c hm hk ho hc hlen;have hlt:k<b.length:=by omega
  have hik:i+k<out.length:=by omega
  have hy:=hb.get hlt;have hz:=ho.get hik;have hp:=QY hx hy;have hd:(out.drop (i+k)).headD 0=out[i+k]:=by rw[χ hik];rfl
  obtain⟨o,c',h1,h2,h3,h4,h5⟩:=ih (k+1) (out.set (i+k) ((x*b[k]+out[i+k]+c) % 4294967296)) ((x*b[k]+out[i+k]+c) / 4294967296) (by omega) (by omega)
   (λz hz'=>by
    rcases List.mem_or_eq_of_mem_set hz' with h|h
    .exact ho z h
    .rw[h];exact Ax1 _ (by omega)) (by omega) (by rw[Aw7];exact hlen)
  rw[Aw7]at h1 h4;refine⟨o,c',?_,h2,h3,h4,?_⟩
  .refine Ax K OM (Afu ..) ?_
   refine Au ?_;rw[AD,AA (Ψ hlt)];simp only[eL,IM,Ae];rw[AoR (by omega),AD,Cr hik];refine Af ?_;refine(AhL out _ hik _).trans ?_;simp only[IM,Ae];rw[AD,Cr hik];refine Af ?_;rw[show Aww (0+(i+k)*1+1) (Av eL out).length=U by rw[BK A2];simp;omega];refine Af ?_;refine Ap ?_ (by decide);rw[Ck (show x<_ by omega),Ck (show b[k]<_ by omega),Ck (show out[i+k]<_ by omega),U1 (by omega),DX (by omega),DX (by omega),GI,Ng,Ty _ _ _ hik,Bv (by omega)];refine Aa h1 ?_;rfl
  .rw[h5,χ hlt,QV,hd]
   have e1:Aws (i+(k+1)) (out.set (i+k) ((x*b[k]+out[i+k]+c) % 4294967296))=out.take (i+k)++[(x*b[k]+out[i+k]+c) % 4294967296]:=by
    rw[show i+(k+1)=i+k+1 by omega,Axt (by rw[Aw7];exact hik),List.getElem_set_self,List.take_set_of_le (ω _)]
   have e2:Awv (i+(k+1)) (out.set (i+k) ((x*b[k]+out[i+k]+c) % 4294967296))=(out.drop (i+k)).tail:=by
    rw[List.drop_set_of_lt (by omega),Ayh];rfl
   rw[e1,e2,Awr];rfl
theorem AdF(a b:Aj)(ha:Limbs a)(hb:Limbs b)(hsz:a.length+b.length<=1000000000):∀(m i:Nat) (out:Aj),a.length-i=m->i<=a.length->Limbs out->out.length=a.length+b.length->JA (i+b.length) out->
  ∃ o:Aj,D.ask (.lp 282 0) [eN b,.sl 0 0 out.length 1,eN a,iv (a.length:Int),iv (i:Int)] [θ (Av eL out) U U]=V (.tup [iv 0,.sl 1 0 o.length 1],[.del,.set (θ (Av eL o) U U)])
   ∧ Limbs o/\o.length=out.length/\Am o=Am out+4294967296 ^ i*Am (a.drop i)*Am b:=by
 intro m
 induction m with
 |zero=>
  intro i out hm hi ho hlen hz;refine⟨out,?_,ho,rfl,?_⟩
  .refine Ax K OM (Aft ..) ?_
   refine Ap ?_;rfl
  .rw[show a.drop i=[] from υ (by omega)]
   simp[Am]
 |succ m ih=>
  intro i out hm hi ho hlen hz;have hlt:i<a.length:=by omega
  have hx:=ha.get hlt;obtain⟨o,c',g1,g2,g3,g4,g5⟩:=AdE K a b hb i hlt hsz a[i] hx b.length 0 out 0 (by omega) (by omega) ho (by omega) hlen;rw[Axg,κ]at g5;have hdl:(out.drop i).length=a.length+b.length-i:=by rw[List.length_drop];omega
  have hlm:Limbs (o.set (i+b.length) c'):=by
   rw[g5];exact SV (ho.take i) (QW _ _ _ _ hx hb (ho.drop i) (by omega))
  have hhead:((out.drop i).drop b.length).headD 0=0:=by
   rw[Ayv];exact Aeg hz
  have hv:Am (o.set (i+b.length) c')=Am out+4294967296 ^ i*(a[i]*Am b):=by
   rw[g5,GP,TM _ _ _ _ hhead];have e:Am out=Am (out.take i)+4294967296 ^ i*Am (out.drop i):=by
    have:=GP (out.take i) (out.drop i);rw[List.take_append_drop,AwL,AxA (by omega)]at this;exact this
   rw[e,AwL,AxA (by omega),Axg,AyQ];omega
  have hz2:JA (i+1+b.length) (o.set (i+b.length) c'):=by
   unfold JA;rw[g5,Ay5,υ (by rw[AwL];omega),AwC,AwL,AxA (by omega),show i+1+b.length-i=b.length+1 by omega,Tc,Ayv];intro y hy;exact hz y (by
    have:Awv (i+(b.length+1)) out=Awv 1 (Awv (i+b.length) out):=by rw[Ayv];rfl
    rw[this]at hy;exact Axq hy)
  obtain⟨o2,k1,k2,k3,k4⟩:=ih (i+1) (o.set (i+b.length) c') (by omega) (by omega) hlm (by rw[Aw7,g4,hlen]) hz2;rw[Aw7,g4]at k1 k3;refine⟨o2,?_,k2,k3,?_⟩
  .refine Ax K OM (Aft ..) ?_
   refine Au ?_;rw[AD,AA (Ψ hlt)];simp only[eL,IM,Al,Ae];refine Aa g1 ?_;simp only[eN,IM,Al,Ae];rw[AoR (by omega),AD,Cr (by omega)];refine Af ?_;rw[show Aww (0+(i+b.length)*1+1) (Av eL o).length=U by rw[BK A2];simp;omega];refine Af ?_;rw[BT g2,Ty _ _ _ (by omega),Bv (by omega)];refine Aa k1 ?_;rfl
  .rw[k4,hv,χ hlt,Am,AxE]
   have e1:4294967296 ^ i*(a[i]+4294967296*Am (Awv (i+1) a))*Am b=4294967296 ^ i*(a[i]*Am b)+4294967296 ^ i*4294967296*Am (Awv (i+1) a)*Am b:=by
    rw[AyQ,Axf,AxX _ a[i],AxX (4294967296 ^ i) 4294967296]
   rw[e1];omega
variable (C:CloneF D)
include C
theorem AdG{a b:Aj}(ha:Limbs a)(hb:Limbs b)(hsz:a.length+b.length<=1000000000):D.ask (.fn 282) [eN a,eN b] []=V (eN (AY (Am a*Am b)),[]):=by
 obtain⟨o,k1,k2,k3,k4⟩:=AdF K a b ha hb hsz a.length 0 (Ayx (a.length+b.length) 0) (by omega) (by omega) (λx hx=>by rw[(Azp.1 hx).2];omega) (by simp) (λy hy=>(Azp.1 (Axq hy)).2);rw[List.length_replicate]at k1 k3;have hz:∀ n,Am (Ayx n 0)=0:=λn=>by
  induction n with
  |zero=>rfl
  |succ n ih=>rw[List.replicate_succ,Am,ih]
 rw[hz,κ,Nat.pow_zero,Nat.one_mul,AwJ]at k4;refine Ao K OM (Au8 ..) ?_;rw[Al,Al,AoR (by omega)];simp only[AD];rw[show Aww (a.length+b.length) (a.length+b.length)=U by simp,AL (n:=a.length+b.length) (b:=4) (by omega) (by omega),AiW];refine Af ?_;refine Af ?_;refine Aa k1 ?_;simp only[Ae];rw[AJ A2 _ (by omega)];refine Af ?_;rw[BQ A2 _ rfl];have gt:=II K C (l:=o) (by unfold Db;omega) k2;rw[k4]at gt;refine Aa gt ?_;rfl
theorem AoP{a b:Aj}(hsa:a.length<=400000000)(ha:Limbs a)(hsb:b.length<=400000000)(hb:Limbs b)(h24:a.length<24\/b.length<24):D.ask (.fn 275) [eN a,eN b] []=V (eN (AY (Am a*Am b)),[]):=by
 have t1:(AY (Am a)).length<=a.length:=by rw[JX a ha];exact EY a
 have t2:(AY (Am b)).length<=b.length:=by rw[JX b hb];exact EY b
 refine Ao K Am5 (Au3 ..) ?_;refine Aa (Gc K (by unfold Db;omega) ha) ?_;simp only[eN,Ae];refine Aa (Gc K (by unfold Db;omega) hb) ?_;simp only[eN,Ae,Al];have g:=AdG K C (AE (Am a)) (AE (Am b)) (by omega);rw[A0,A0]at g
 by_cases h1:(AY (Am a)).length<24
 .refine Au ?_
  refine Aa g ?_;rfl
 .refine Ap ?_
  refine Au ?_;refine Aa g ?_;rfl
end
section
variable {D:Orc} (K:Knows Ah O1 D) (Z:Knows Ah XQ D) (C:CloneF D)
include K Z C
theorem G0(neg:Bool){a:Aj}(ha:Limbs a)(hs:Db a):D.ask (.fn 145) [bv neg,eN a] []=V (.agg (eZ (Bo (E5 neg (Am a)))),[]):=by
 refine Ao Z Amm (AtU ..) ?_;refine Aa (II K C hs ha) ?_;simp only[eN,Ae,Al];rw[AbZ];unfold eZ eN
 cases neg with
 |false=>rfl
 |true=>
  refine Af ?_;refine Af ?_;refine Af ?_;have hp:=@F8 (Am a)
  by_cases h:0<Am a
  .refine Au ?_ (by have:=hp.2 h;omega)
   rw[AW h];rfl
  .refine Ap ?_ (by intro e;exact h (hp.1 (by omega)))
   rw[Be h];rfl
theorem AeN{z:Zi}(hz:Lz 1000000000 z):D.ask (.fn 209) [.agg (eZ z)] []=V (.agg (eZ (Bo (zv z))),[]):=by
 refine Ao Z AmM (Auz ..) ?_;refine Aa (G0 K Z C z.neg hz.lim hz.len) ?_;rfl
theorem Alx{z:Zi}(hz:Lz 1000000000 z):D.ask (.fn 86) [.agg (eZ z)] []=V (.agg (eZ (Bo (-zv z))),[]):=by
 have e:-zv z=E5 (!z.neg) (Am z.abs):=by
  unfold zv E5
  cases z.neg<;>simp
 rw[e];refine Ao Z ArF (e86 ..) ?_;rw[AhG];have g:=λb=>G0 K Z C b hz.lim hz.len
 cases z.neg with
 |false=>
  refine Af ?_;refine Aa (g U) ?_;rfl
 |true=>
  refine BF ?_;refine Aa (g Θ) ?_;rfl
theorem RO{z:Zi}(hz:Lz 1000000000 z):D.ask (.fn 158) [.agg (eZ z)] []=V (iv (DS (zv z)),[]):=by
 refine Ao Z Amu (At5 ..) ?_;refine Aa (AeN K Z C hz) ?_;simp only[eZ,eN,Ae,Al];unfold Bo DS
 by_cases h:zv z<0
 .rw[Ac h,AW h]
  rfl
 .rw[Ab h,Be h]
  refine BF ?_;have hp:=@F8 (zv z).natAbs
  by_cases h2:0<zv z
  .rw[Ac h2]
   refine Au ?_ (by have:=hp.2 (by omega);dsimp only;omega);rfl
  .rw[Ab h2]
   refine Ap ?_ (by dsimp only;intro e;have:=hp.1 (by omega);omega);rfl
theorem Aqy(n:Int)(h1:-9223372036854775808<=n)(h2:n<9223372036854775808):D.ask (.fn 84) [iv n] []=V (.agg (eZ (Bo n)),[]):=by
 refine Ao Z ArD (e84 ..) ?_;have hl:∀ m:Nat,m<18446744073709551616->(AY m).length<=2:=λm h=>BS (by omega)
 by_cases h:n<0
 .refine Au ?_ h
  have e1:Ak.add .i64 n 1=n+1:=J8 (by omega) (by omega);have e2:Ak.sub .i64 0 (n+1)=((n.natAbs-1:Nat):Int):=by rw[Ip (by omega) (by omega)];omega
  rw[e1,e2,Ck (by omega),show (1:Int)=((1:Nat):Int) from rfl,DX (by omega),show n.natAbs-1+1=n.natAbs by omega];refine Aa (AlA K C n.natAbs (by omega)) ?_;simp only[eN,Ae];have g:=G0 K Z C U (AE n.natAbs) (by unfold Db;have:=hl n.natAbs (by omega);omega);rw[A0,show E5 U n.natAbs=n by unfold E5;rw[Ac rfl];omega]at g;refine Aa g ?_;rfl
 .refine Ap ?_ h
  obtain⟨m,rfl⟩:=Int.eq_ofNat_of_zero_le (show 0<=n by omega);rw[Ck (by omega)];refine Aa (AlA K C m (by omega)) ?_;simp only[eN,Ae];have g:=G0 K Z C Θ (AE m) (by unfold Db;have:=hl m (by omega);omega);rw[A0,show E5 Θ m=(m:Int) from rfl]at g;refine Aa g ?_;rfl
theorem Alv{a b:Zi}(ha:Lz 1000000000 a)(hb:Lz 1000000000 b):D.ask (.fn 285) [.agg (eZ a),.agg (eZ b)] []=V (iv (GU (zv a) (zv b)),[]):=by
 refine Ao Z Ana (Ava ..) ?_;refine Aa (RO K Z C ha) ?_;simp only[Ae];refine Aa (RO K Z C hb) ?_;simp only[Ae];have g1:=Yc K (a:=b.abs) (b:=a.abs) hb.len hb.lim ha.len ha.lim;have g2:=Yc K (a:=a.abs) (b:=b.abs) ha.len ha.lim hb.len hb.lim;have na:=AiX a;have nb:=AiX b;have za:=Ab0 a;have zb:=Ab0 b;have va:zv a=E5 a.neg (Am a.abs):=rfl;have vb:zv b=E5 b.neg (Am b.abs):=rfl;unfold DS
 by_cases h1:zv a<0
 .rw[Ac h1]
  rw[E5,Ac (na.1 h1).1]at va
  by_cases h2:zv b<0
  .rw[Ac h2]
   rw[E5,Ac (nb.1 h2).1]at vb;refine Ap ?_ (by decide);refine Ap ?_ (by decide);refine Au ?_ (by decide);refine Aa g1 ?_;rw[show GU (zv a) (zv b)=Ep (Am b.abs) (Am a.abs) by
    unfold GU Ep;rw[va,vb]
    by_cases h3:Am b.abs<Am a.abs
    .rw[Ac (by omega),Ac h3]
    .rw[Ab (by omega),Ab h3]
     by_cases h4:Am a.abs<Am b.abs
     .rw[Ac (by omega),Ac h4]
     .rw[Ab (by omega),Ab h4]]
   rfl
  .rw[Ab h2]
   rw[show GU (zv a) (zv b)=-1 by unfold GU;rw[Ac (by omega)]]
   by_cases h3:0<zv b
   .rw[Ac h3];rfl
   .rw[Ab h3];rfl
 .rw[Ab h1]
  by_cases h2:zv b<0
  .rw[Ac h2]
   rw[show GU (zv a) (zv b)=1 by unfold GU;rw[Ab (by omega),Ac (by omega)]]
   by_cases h3:0<zv a
   .rw[Ac h3];rfl
   .rw[Ab h3];rfl
  .rw[Ab h2]
   have ea:zv a=(Am a.abs:Int):=by
    by_cases h:0<Am a.abs
    .rw[va,E5,Ab (λe=>h1 (na.2 ⟨e,h⟩))]
    .rw[za.2 (by omega)];omega
   have eb:zv b=(Am b.abs:Int):=by
    by_cases h:0<Am b.abs
    .rw[vb,E5,Ab (λe=>h2 (nb.2 ⟨e,h⟩))]
    .rw[zb.2 (by omega)];omega
   have ec:GU (zv a) (zv b)=Ep (Am a.abs) (Am b.abs):=by
    unfold GU Ep;rw[ea,eb]
    by_cases h3:Am a.abs<Am b.abs
    .rw[Ac (by omega),Ac h3]
    .rw[Ab (by omega),Ab h3]
     by_cases h4:Am b.abs<Am a.abs
     .rw[Ac (by omega),Ac h4]
     .rw[Ab (by omega),Ab h4]
   rw[ec]
   by_cases h3:0<zv a
   .rw[Ac h3]
    by_cases h4:0<zv b
    .rw[Ac h4]
     refine Ap ?_ (by decide);refine Ap ?_ (by decide);refine Ap ?_ (by decide);refine Aa g2 ?_;rfl
    .rw[Ab h4]
     refine Ap ?_ (by decide);refine Au ?_ (by decide);rw[show Ep (Am a.abs) (Am b.abs)=1 by unfold Ep;rw[Ab (by omega),Ac (by omega)]]
   .rw[Ab h3]
    by_cases h4:0<zv b
    .rw[Ac h4]
     refine Au ?_ (by decide);rw[show Ep (Am a.abs) (Am b.abs)=-1 by unfold Ep;rw[Ac (by omega)]]
    .rw[Ab h4]
     refine Ap ?_ (by decide);refine Ap ?_ (by decide);refine Ap ?_ (by decide);refine Aa g2 ?_;rfl
theorem Alu{k:Nat}(hk:k<=900000000){a b:Zi}(ha:Lz k a)(hb:Lz k b):D.ask (.fn 87) [.agg (eZ a),.agg (eZ b)] []=V (.agg (eZ (Bo (zv a+zv b))),[]):=by
 have la:=ha.len;have lb:=hb.len;refine Ao Z ArG (e87 ..) ?_;have hfr:∀(neg:Bool) (n:Nat),n<4294967296 ^ (k+1)->D.ask (.fn 145) [bv neg,eN (AY n)] []=V (.agg (eZ (Bo (E5 neg n))),[]):=λneg n h=>by
  have:=G0 K Z C neg (AE n) (by unfold Db;have:=BS h;omega)
  rwa [A0]at this
 have ba:=Dy ha.lim;have bb:=Dy hb.lim;have pa:4294967296 ^ a.abs.length<=4294967296 ^ k:=AxL (by omega) la;have pb:4294967296 ^ b.abs.length<=4294967296 ^ k:=AxL (by omega) lb;have ps:4294967296 ^ (k+1)=4294967296 ^ k*4294967296:=AxE ..
 by_cases h:a.neg=b.neg
 .rw[In,show (a.neg == b.neg)=U by simpa using h]
  refine Af ?_;refine Aa (AoK K C (by omega) ha.lim (by omega) hb.lim) ?_;simp only[eN,Ae];refine Aa (hfr a.neg (Am a.abs+Am b.abs) (by omega)) ?_;rw[show E5 a.neg (Am a.abs+Am b.abs)=zv a+zv b by
   unfold zv;rw[←h];unfold E5;split<;>omega]
  rfl
 .rw[In,show (a.neg == b.neg)=Θ by simpa using h]
  refine BF ?_;have hop:zv a+zv b=E5 a.neg (Am a.abs)+E5 (!a.neg) (Am b.abs):=by
   unfold zv;have:b.neg = !a.neg:=by
    revert h
    cases a.neg<;>cases b.neg<;>simp
   rw[this]
  have g1:=Aer K C (a:=a.abs) (b:=b.abs) (by unfold Db;omega) ha.lim (by unfold Db;omega) hb.lim;have g2:=Aer K C (a:=b.abs) (b:=a.abs) (by unfold Db;omega) hb.lim (by unfold Db;omega) ha.lim;unfold Qk at g1 g2;refine Aa g1 ?_
  by_cases hle:Am b.abs<=Am a.abs
  .rw[Ac hle]
   simp only[eN,Ae];refine Aa (hfr a.neg (Am a.abs-Am b.abs) (by omega)) ?_;rw[show E5 a.neg (Am a.abs-Am b.abs)=zv a+zv b by
    rw[hop];unfold E5
    cases a.neg<;>simp<;>omega]
   rfl
  .rw[Ab hle]
   rw[Ac (by omega)]at g2;simp only[eN,Ae];refine Aa g2 ?_;simp only[eN,Ae];refine Aa (hfr b.neg (Am b.abs-Am a.abs) (by omega)) ?_;rw[show E5 b.neg (Am b.abs-Am a.abs)=zv a+zv b by
    rw[hop];have:b.neg = !a.neg:=by
     revert h
     cases a.neg<;>cases b.neg<;>simp
    rw[this];unfold E5
    cases a.neg<;>simp<;>omega]
   rfl
theorem Alw{k m:Nat}(hk:k<=400000000)(hkm:m<=400000000){a b:Zi}(ha:Lz k a)(hb:Lz m b)(h24:a.abs.length<24\/b.abs.length<24):D.ask (.fn 264) [.agg (eZ a),.agg (eZ b)] []=V (.agg (eZ (Bo (zv a*zv b))),[]):=by
 have la:=ha.len;have lb:=hb.len;refine Ao Z Am0 (AuX ..) ?_;have hm:InB (k+m) (zv a*zv b):=ha.inb.mul hb.inb;have hab:(zv a*zv b).natAbs=Am a.abs*Am b.abs:=by
  have f:∀ z:Zi,(zv z).natAbs=Am z.abs:=λz=>by
   unfold zv E5;split
   .rw[Ax8];rfl
   .rfl
  rw[AzJ,f,f]
 unfold InB at hm;rw[hab]at hm;have hl:=BS hm;have hfr:∀(neg:Bool),D.ask (.fn 145) [bv neg,eN (AY (Am a.abs*Am b.abs))] []=V (.agg (eZ (Bo (E5 neg (Am a.abs*Am b.abs)))),[]):=λneg=>by
  have:=G0 K Z C neg (AE (Am a.abs*Am b.abs)) (by unfold Db;omega)
  rwa [A0]at this
 have g:=AoP K C (by omega) ha.lim (by omega) hb.lim h24;have hs:E5 (a.neg != b.neg) (Am a.abs*Am b.abs)=zv a*zv b:=by
  unfold zv E5
  cases a.neg<;>cases b.neg<;>simp[Int.mul_neg,Int.neg_mul]
 rw[AhG,In]
 by_cases h:a.neg=b.neg
 .rw[show (!(a.neg == b.neg))=Θ by simp[h]]
  rw[show (a.neg != b.neg)=Θ by simp[h]]at hs;refine BF ?_;refine Aa g ?_;simp only[eN,Ae];refine Aa (hfr Θ) ?_;rw[hs];rfl
 .rw[show (!(a.neg == b.neg))=U by simp[h]]
  rw[show (a.neg != b.neg)=U by simp[h]]at hs;refine Af ?_;refine Aa g ?_;simp only[eN,Ae];refine Aa (hfr U) ?_;rw[hs];rfl
end
def IV(c:UInt8):Bool:=decide (48<=c.toNat)&&decide (c.toNat<=57)
theorem AeX{c:UInt8}(h:IV c=U):c.toNat-48<=9:=by
 have h2:=(Ayj.1 h);have h4:=of_decide_eq_true h2.2;omega
theorem AqX{c:UInt8}(h:IV c=U):48<=c.toNat/\c.toNat<=57:=by
 have h2:=(Ayj.1 h);exact⟨of_decide_eq_true h2.1,of_decide_eq_true h2.2⟩
theorem AqY{c:UInt8}(h:IV c=Θ):c.toNat<48\/¬ c.toNat<48/\57<c.toNat:=by
 by_cases h1:c.toNat<48
 .exact .inl h1
 .refine .inr ⟨h1,?_⟩
  by_cases h2:57<c.toNat
  .exact h2
  .unfold IV at h
   rw[AW (by omega),AW (by omega)]at h
   cases h
theorem AoG{c:UInt8}(h:48<=c.toNat/\c.toNat<=57):Ak.sub .u8 (c.toNat:Int) 48=((c.toNat-48:Nat):Int):=by
 show IntKind.u8.wrap ((c.toNat:Int)-48)=_
 rw[IntKind.wrap_u8];omega
def hor(v:Nat)(l:List UInt8):Nat:=l.foldl (λv c=>v*10+(c.toNat-48)) v
theorem Qz(v:Nat)(c:UInt8)(l:List UInt8):hor v (c::l)=hor (v*10+(c.toNat-48)) l:=by
 unfold hor;exact Aye ..
theorem Y5:∀(l:List UInt8) {v i:Nat},l.all IV=U->v<4294967296 ^ i->hor v l<4294967296 ^ (i+l.length)
 |[],v,i,_,hv=>hv
 |c::l,v,i,h,hv=>by
  rw[Axn,Ayj]at h;have h1:=AeX h.1;have:=Y5 l (v:=v*10+(c.toNat-48)) (i:=i+1) h.2 (by rw[AxE];omega);rw[Qz,π,show i+(l.length+1)=i+1+l.length by omega];exact this
theorem Io{s:ByteArray}{i:Nat}(h:i<s.size):Ak.sat s i=((s.data.toList[i]'(by simpa using h)).toNat:Int):=by
 show (match s[i]? with|some c=>Int.ofNat c.toNat|none=>0)=_
 rw[getElem?_pos s i h];rfl
def ScN(q:Nat):Prop:=q=1\/q=10\/q=100\/q=1000\/q=10000\/q=100000\/q=1000000\/q=10000000\/q=100000000
theorem ScN.next{q:Nat}(h:ScN q):q=100000000\/q<100000000/\ScN (q*10):=by
 unfold ScN at *;omega
theorem ScN.le{q:Nat}(h:ScN q):1<=q/\q<=100000000:=by
 unfold ScN at h;omega
theorem WB(v q p d:Nat):v*(q*10)+(p*10+d)=(v*q+p)*10+d:=by
 rw[Axf,AxX];omega
theorem OZ:∀(m c:Nat) (a:Aj),(ET m c a).length=a.length+1
 |_,_,[]=>rfl
 |m,c,x::a=>by rw[ET,π,OZ,π]
section
variable {D:Orc} (K:Knows Ah O1 D)
include K
theorem Acq{c:UInt8}(h:IV c=U):D.ask (.fn 202) [.v (.int .u8 (c.toNat:Int))] []=V (.tup [.v (.int .u32 ((c.toNat-48:Nat):Int)),bv U],[]):=by
 have h2:=(Ayj.1 h);have h3:=of_decide_eq_true h2.1;have h4:=of_decide_eq_true h2.2;refine Ao K Af6 (Ara ..) ?_;refine Cg ?_;refine Cg ?_;rw[show Ak.sub .u8 (c.toNat:Int) 48=((c.toNat-48:Nat):Int) from by
  show IntKind.u8.wrap ((c.toNat:Int)-48)=_
  rw[IntKind.wrap_u8];omega,BT (by omega)]
theorem AeY{c:UInt8}(h:IV c=Θ):∃ x:Int,D.ask (.fn 202) [.v (.int .u8 (c.toNat:Int))] []=V (.tup [.v (.int .u32 x),bv Θ],[]):=by
 refine⟨Ak.conv .u32 (Ak.sub .u8 (c.toNat:Int) 48),K.fn' Af6 _ rfl ((Ara ..).trans ?_)⟩
 by_cases h1:48<=c.toNat
 .refine Cg ?_
  refine(AeI ?_).trans rfl;intro h2;unfold IV at h;rw[AW h1,AW (by omega)]at h
  cases h
 .exact Cm rfl
theorem AjO{a:Aj}(ha:Limbs a)(hs:a.length<=999999999)(m:Nat)(hm:m<4294967296):∀(k i:Nat) (out:Aj) (c:Nat),a.length-i=k->i<=a.length->c<4294967296->out.length=i->
  ∃(o:Aj) (c':Nat),D.ask (.lp 203 0) [.v (.int .u32 (m:Int)),.sl 0 0 out.length 1,.v (.int .u64 (c:Int)),eN a,iv (a.length:Int),iv (i:Int)] [θ (Av eL out) U U]
   = V (.tup [iv 0,.sl 1 0 o.length 1,.v (.int .u64 (c':Int))],[.del,.set (θ (Av eL o) U U)])/\c'<4294967296/\o++[c']=out++ET m c (a.drop i):=by
 intro k
 induction k with
 |zero=>
  intro i out c hi hle hc ho;refine⟨out,c,?_,hc,?_⟩
  .refine Ax K SI (Afc ..) ?_
   refine Ap ?_;rfl
  .rw[show a.drop i=[] from υ (by omega)]
   rfl
 |succ k ih=>
  intro i out c hi hle hc ho;have hlt:i<a.length:=by omega
  have hx:=ha.get hlt;have hp:=QY hx hm;obtain⟨o,c',h1,h2,h3⟩:=ih (i+1) (out++[(a[i]*m+c) % 4294967296]) ((a[i]*m+c) / 4294967296) (by omega) (by omega) (by omega) (by simp;omega);refine⟨o,c',?_,h2,?_⟩
  .refine Ax K SI (Afc ..) ?_
   refine Au ?_;rw[AD,AA (Ψ hlt)];simp only[eL,IM,Ae];have hf:Bh (out.length+1) 4=U:=AL (by omega) (by omega);have hb1:Aww (0+out.length*1) (Av eL out).length=U:=AJ A2 out (by omega);have e3:∀ s:Nat,Awv 0 (Aws (0+out.length*1) (Av eL out))++[.v (.int .u32 (s:Int))]=Av eL (out++[s]):=λs=>by
    rw[κ,A9 A2 out (by omega)];exact A8 eL out s
   rw[ζ,Aw5]at h1;rw[Ck (show a[i]<_ by omega),Ck (show m<_ by omega),U1 (by omega),DX (by omega),GI,Ng,Bv (by omega),hf,hb1,e3];refine Af ?_;refine Af ?_;refine Ap ?_ (by decide);refine Aa h1 ?_;rfl
  .rw[h3,χ hlt,ET,Awr]
   rfl
theorem AaD{a:Aj}(ha:Limbs a)(hs:a.length<=999999999){m:Nat}(hm:m<4294967296){c:Nat}(hc:c<4294967296):∃ L:Aj,D.ask (.fn 203) [eN a,.v (.int .u32 (m:Int)),.v (.int .u32 (c:Int))] []=V (eN L,[])/\Limbs L/\Am L=Am a*m+c/\L.length<=a.length+1:=by
 obtain⟨o,c',g,hc',ho⟩:=AjO K ha hs m hm a.length 0 [] c (by omega) (by omega) hc rfl;rw[AwC,κ]at ho;have hol:o.length=a.length:=by
  have:=congrArg AyO ho;rw[ζ,OZ]at this;simpa using this
 have hL:=I9 m a c hm ha hc;have hV:=KE m a c;rw[←ho]at hL hV
 by_cases h0:c'=0
 .subst h0
  refine⟨o,?_,λx hx=>hL x (List.mem_append_left _ hx),?_,by omega⟩
  .refine Ao K SI (Arb ..) ?_
   rw[Al,Bv (by omega),AD,AL (by omega) (by omega)];refine Af ?_;rw[Ck (show c<_ by omega)];refine Aa g ?_;simp only[IM,Ae];refine Ap ?_;rw[AJ A2 o (by omega)];refine Af ?_;rw[A9 A2 o rfl,DG A2 o];rfl
  .rw[←hV,GP]
   simp[Am]
 .refine⟨o++[c'],?_,hL,hV,by simp;omega⟩
  refine Ao K SI (Arb ..) ?_;rw[Al,Bv (by omega),AD,AL (by omega) (by omega)];refine Af ?_;rw[Ck (show c<_ by omega)];refine Aa g ?_;simp only[IM,Ae];refine Au ?_;rw[BT hc'];have e3:Awv 0 (Aws (0+o.length*1) (Av eL o))++[.v (.int .u32 (c':Int))]=Av eL (o++[c']):=by
   rw[κ,A9 A2 o (by omega)];exact A8 eL o c'
  rw[AL (n:=o.length+1) (b:=4) (by omega) (by omega),AJ A2 o (by omega),e3,AJ A2 (o++[c']) (by simp)];refine Af ?_;refine Af ?_;refine Af ?_;rw[κ,A9 A2 (o++[c']) (by simp),show By (o.length+1) 1 (Av eL (o++[c']))=(o++[c']).map eL from by have:=DG A2 (o++[c']);rwa [ζ]at this];rfl
def AqH(x:AV)(L:Aj):Prop:=x=eN L\/(x=.v (.slice none 0 0)/\L=[])
set_option maxHeartbeats 4000000 in
theorem Adh{s:ByteArray}(hs:s.size<=4000):∀(m i:Nat) (x:AV) (L:Aj) (p q:Nat),s.size-i=m->i<=s.size->AqH x L->Limbs L->L.length<=i->p<q->ScN q->
  ((s.data.toList.drop i).all IV=U->∃(L':Aj) (p' q':Nat),D.ask (.lp 148 0) [sv s,x,.v (.int .u32 (p:Int)),.v (.int .u32 (q:Int)),iv (s.size:Int),iv (i:Int)] []=V (.tup [iv 1,eN L',.v (.int .u32 (p':Int)),.v (.int .u32 (q':Int))],[])
    ∧ Limbs L'/\L'.length<=s.size/\p'<q'/\ScN q'/\Am L'*q'+p'=hor (Am L*q+p) (s.data.toList.drop i))
  ∧ ((s.data.toList.drop i).all IV=Θ->D.ask (.lp 148 0) [sv s,x,.v (.int .u32 (p:Int)),.v (.int .u32 (q:Int)),iv (s.size:Int),iv (i:Int)] []=V (.tup [bv U,.ls [],iv 20],[])):=by
 intro m;have hsl:s.data.toList.length=s.size:=by simp
 induction m with
 |zero=>
  intro i x L p q hm hi hx hL hLl hp hq;have e:s.data.toList.drop i=[]:=υ (by omega);rw[e];refine⟨λ_=>⟨L,p,q,?_,hL,by omega,hp,hq,rfl⟩,λh=>by cases h⟩;rcases hx with rfl|⟨rfl,rfl⟩
  .refine Ax K Jl (Uj ..) ?_
   exact Ap rfl
  .refine Ax K Jl (PC ..) ?_
   exact Ap rfl
 |succ m ih=>
  intro i x L p q hm hi hx hL hLl hp hq;have hlt:i<s.size:=by omega
  have hlt':i<s.data.toList.length:=by omega
  have e:s.data.toList.drop i=s.data.toList[i]::s.data.toList.drop (i+1):=χ hlt';rw[e,Axn];have hq1:=hq.le
  cases hd:IV s.data.toList[i]with
  |false=>
   refine⟨λh=>by simp at h,λ_=>?_⟩;obtain⟨z,hz⟩:=AeY K hd;rcases hx with rfl|⟨rfl,rfl⟩
   .refine Ax K Jl (Uj ..) ?_
    refine Au ?_;rw[AD,BW,Cr hlt];refine Af ?_;rw[Io hlt];refine Aa hz ?_;simp only[IM,Ae];rfl
   .refine Ax K Jl (PC ..) ?_
    refine Au ?_;rw[AD,BW,Cr hlt];refine Af ?_;rw[Io hlt];refine Aa hz ?_;simp only[IM,Ae];rfl
  |true=>
   have hy:=Acq K hd;have hdd:=AeX hd;rw[AwD,Qz];rcases hq.next with h8|⟨h8,hq2⟩
   .obtain⟨L2,g,hL2,hV2,hl2⟩:=AaD K hL (by omega) (m:=q*10) (by omega) (c:=p*10+(s.data.toList[i].toNat-48)) (by omega)
    have ih':=ih (i+1) (eN L2) L2 0 1 (by omega) (by omega) (.inl rfl) hL2 (by omega) (by omega) (.inl rfl);rw[show Am L2*1+0=(Am L*q+p)*10+(s.data.toList[i].toNat-48) by rw[AyB,Axg,hV2,WB]]at ih';have key:∀ r,((∃(l:Aj) (a b:Nat),r=AV.tup [iv 1,eN l,.v (.int .u32 (a:Int)),.v (.int .u32 (b:Int))])\/r=.tup [bv U,.ls [],iv 20])->D.ask (.lp 148 0) [sv s,eN L2,.v (.int .u32 ((0:Nat):Int)),.v (.int .u32 ((1:Nat):Int)),iv (s.size:Int),iv ((i+1:Nat):Int)] []=V (r,[])->D.ask (.lp 148 0) [sv s,x,.v (.int .u32 (p:Int)),.v (.int .u32 (q:Int)),iv (s.size:Int),iv (i:Int)] []=V (r,[]) :=λr hr h1=>by
     rcases hx with rfl|⟨rfl,rfl⟩
     case' inl=>refine Ax K Jl (Uj ..) ?_
     case' inr=>refine Ax K Jl (PC ..) ?_
     all_goals
      refine Au ?_;rw[AD,BW,Cr hlt];refine Af ?_;rw[Io hlt];refine Aa hy ?_;simp only[IM,Ae];refine BF ?_;rw[show (10:Int)=((10:Nat):Int) from rfl,PL,PL,Abu,AxZ (show q*10<4294967296 by omega),AxZ (show p*10<4294967296 by omega),AxZ (show p*10+(s.data.toList[i].toNat-48)<4294967296 by omega),Bv (by omega)];refine Aw ?_;refine Aa g ?_;simp only[eN,Ae];refine Aa h1 ?_;rcases hr with⟨l,a,b,rfl⟩|rfl<;>rfl
    exact⟨λh=>(ih'.1 h).elim λL' h=>h.elim λp' h=>h.elim λq' h=>⟨L',p',q',key _ (.inl ⟨_,_,_,rfl⟩) h.1,h.2⟩,λh=>key _ (.inr rfl) (ih'.2 h)⟩
   .have ih':=ih (i+1) x L (p*10+(s.data.toList[i].toNat-48)) (q*10) (by omega) (by omega) hx hL (by omega) (by omega) hq2
    rw[WB]at ih';have key:∀ r,((∃(l:Aj) (a b:Nat),r=AV.tup [iv 1,eN l,.v (.int .u32 (a:Int)),.v (.int .u32 (b:Int))])\/r=.tup [bv U,.ls [],iv 20])->D.ask (.lp 148 0) [sv s,x,.v (.int .u32 ((p*10+(s.data.toList[i].toNat-48):Nat):Int)),.v (.int .u32 ((q*10:Nat):Int)),iv (s.size:Int),iv ((i+1:Nat):Int)] []=V (r,[])->D.ask (.lp 148 0) [sv s,x,.v (.int .u32 (p:Int)),.v (.int .u32 (q:Int)),iv (s.size:Int),iv (i:Int)] []=V (r,[]) :=λr hr h1=>by
     rcases hx with rfl|⟨rfl,rfl⟩
     case' inl=>refine Ax K Jl (Uj ..) ?_
     case' inr=>refine Ax K Jl (PC ..) ?_
     all_goals
      refine Au ?_;rw[AD,BW,Cr hlt];refine Af ?_;rw[Io hlt];refine Aa hy ?_;simp only[IM,Ae];refine BF ?_;rw[show (10:Int)=((10:Nat):Int) from rfl,PL,PL,Abu,AxZ (show q*10<4294967296 by omega),AxZ (show p*10<4294967296 by omega),AxZ (show p*10+(s.data.toList[i].toNat-48)<4294967296 by omega),Bv (by omega)];refine As ?_;refine Aa h1 ?_;rcases hr with⟨l,a,b,rfl⟩|rfl<;>rfl
    exact⟨λh=>(ih'.1 h).elim λL' h=>h.elim λp' h=>h.elim λq' h=>⟨L',p',q',key _ (.inl ⟨_,_,_,rfl⟩) h.1,h.2⟩,λh=>key _ (.inr rfl) (ih'.2 h)⟩
def Jv(s:ByteArray):Aj × Int:=
 if 4000<s.size then([],2) else if s.size=0 then([],20) else if s.data.toList.all IV=U then(AY (hor 0 s.data.toList),0) else([],20)
variable (C:CloneF D)
include C
theorem Adi(s:ByteArray):D.ask (.fn 148) [sv s] []=V (.tup [eN (Jv s).1,iv (Jv s).2],[]):=by
 refine Ao K Jl (AtX ..) ?_;unfold Jv;rw[BW]
 by_cases h1:4000<s.size
 .rw[Ac h1]
  exact Au rfl
 rw[Ab h1];refine Ap ?_
 by_cases h2:s.size=0
 .rw[Ac h2]
  have h3:s=ByteArray.empty:=by simpa using h2
  exact Fv (by rw[h3];rfl) rfl
 rw[Ab h2];refine(IK (λh=>h2 (by rw[h];rfl))).trans ?_;have g:=Adh K (s:=s) (by omega) s.size 0 (.v (.slice none 0 0)) [] 0 1 (by omega) (by omega) (.inr ⟨rfl,rfl⟩) Cn (by simp) (by omega) (.inl rfl);rw[κ]at g
 by_cases h3:s.data.toList.all IV=U
 .rw[Ac h3]
  obtain⟨L',p',q',h4,hL,hl,hp,hq,hv⟩:=g.1 h3;have hq1:=hq.le;obtain⟨L2,g2,hL2,hV2,hl2⟩:=AaD K hL (by omega) (m:=q') (by omega) (c:=p') (by omega);refine Aa h4 ?_;simp only[eN,IM,Ae];refine Af ?_;refine Aa g2 ?_;simp only[eN,Ae];refine Aa (II K C (by unfold Db;omega) hL2) ?_;rw[hV2,hv];rfl
 .rw[Ab h3]
  refine Aa (g.2 (by simpa using h3)) ?_;rfl
end
theorem GD(s:ByteArray):Limbs (Jv s).1:=by
 unfold Jv;split
 .exact Cn
 split
 .exact Cn
 split
 .exact AE _
 .exact Cn
theorem J4(s:ByteArray):(Jv s).1.length<=4000:=by
 unfold Jv;split
 .simp
 split
 .simp
 split
 .rename_i h1 h2 h3
  refine Nat.le_trans (BS (k:=s.size) ?_) (by omega);have:=Y5 s.data.toList h3 (v:=0) (i:=0) (by simp)
  rwa [AwJ,show s.data.toList.length=s.size by simp]at this
 .simp
def Pg(s:ByteArray):Prop:=1<=s.size/\s.extract 0 1=Ai [45]
instance (s:ByteArray):Decidable (Pg s):=by unfold Pg;exact inferInstance
def Js(s:ByteArray):ByteArray × Bool:=if Pg s then(s.extract 1 s.size,U) else(s,Θ)
def Hx(s:ByteArray):Zi × Int:=if(Jv (Js s).1).2=0 then(Bo (E5 (Js s).2 (Am (Jv (Js s).1).1)),0) else(⟨Θ,[]⟩,(Jv (Js s).1).2)
section
variable {D:Orc} (K:Knows Ah O1 D) (Z:Knows Ah XQ D) (C:CloneF D)
include Z
theorem AjQ(s:ByteArray):D.ask (.fn 241) [sv s,sv (Ai [45])] []=V (bv (decide (Pg s)),[]):=by
 refine Ao Z AmW (AuM ..) ?_;rw[BW,BW,show (Ai [45]).size=1 from rfl]
 by_cases h1:1<=s.size
 .refine Cg ?_
  rw[show Lr 0 1 s.size=U by unfold Lr;simp;omega];refine Af ?_
  by_cases h2:s.extract 0 1=Ai [45]
  .rw[AW (show Pg s from ⟨h1,h2⟩)]
   exact Fv h2 rfl
  .rw[Be (show ¬ Pg s from λh=>h2 h.2)]
   exact(IK h2).trans rfl
 .rw[Be (show ¬ Pg s from λh=>h1 h.1)]
  exact Cm rfl
theorem Ajw(s:ByteArray):D.ask (.fn 201) [sv s,sv (Ai [45])] []=V (.tup [sv (Js s).1,bv (Js s).2],[]):=by
 refine Ao Z AmK (Aut ..) ?_;refine Aa (AjQ Z s) ?_;simp only[Ae];unfold Js
 by_cases h:Pg s
 .have h1:=h.1
  rw[Ac h,AW h,BW,BW,show (Ai [45]).size=1 from rfl];refine Af ?_;rw[show Lr 1 s.size s.size=U by unfold Lr;rw[Axl h1,Axl (ω _)]];rfl
 .rw[Ab h,Be h]
  exact BF rfl
theorem Apf(s:ByteArray):D.ask (.fn 147) [sv s,sv (Ai [45])] []=V (.tup [sv (Js s).1,bv (Js s).2],[]):=by
 refine Ao Z Amo (AtW ..) ?_;refine Aa (Ajw Z s) ?_;rfl
include K C
theorem Aef(s:ByteArray):D.ask (.fn 85) [sv s] []=V (.tup [.agg (eZ (Hx s).1),iv (Hx s).2],[]):=by
 refine Ao Z ArE (e85 ..) ?_;refine Aa (Apf Z s) ?_;simp only[Ae];refine Aa (Adi K C (Js s).1) ?_;simp only[eN,IM,Ae];unfold Hx
 by_cases h:(Jv (Js s).1).2=0
 .rw[Ac h]
  refine Aw ?_ h;refine Aa (G0 K Z C (Js s).2 (GD _) (by unfold Db;have:=J4 (Js s).1;omega)) ?_;rfl
 .rw[Ab h]
  exact As rfl h
end
structure ZF (D:Orc):Prop where
 frm:∀ z:Zi,Lz 1000000000 z->D.ask (.fn 145) [bv z.neg,eN z.abs] []=V (.agg (eZ (Bo (zv z))),[])
 neg:∀ z:Zi,Lz 1000000000 z->D.ask (.fn 86) [.agg (eZ z)] []=V (.agg (eZ (Bo (-zv z))),[])
 sign:∀ z:Zi,Lz 1000000000 z->D.ask (.fn 158) [.agg (eZ z)] []=V (iv (DS (zv z)),[])
 of_:∀ n:Int,-9223372036854775808<=n->n<9223372036854775808->D.ask (.fn 84) [iv n] []=V (.agg (eZ (Bo n)),[])
 cmp:∀ a b:Zi,Lz 1000000000 a->Lz 1000000000 b->D.ask (.fn 285) [.agg (eZ a),.agg (eZ b)] []=V (iv (GU (zv a) (zv b)),[])
 add:∀ a b:Zi,Lz 900000000 a->Lz 900000000 b->D.ask (.fn 87) [.agg (eZ a),.agg (eZ b)] []=V (.agg (eZ (Bo (zv a+zv b))),[])
 mul:∀ a b:Zi,Lz 400000000 a->Lz 400000000 b->a.abs.length<24\/b.abs.length<24->D.ask (.fn 264) [.agg (eZ a),.agg (eZ b)] []=V (.agg (eZ (Bo (zv a*zv b))),[])
 parse:∀ s:ByteArray,D.ask (.fn 85) [sv s] []=V (.tup [.agg (eZ (Hx s).1),iv (Hx s).2],[])
theorem Ate{D:Orc}(K:Knows Ah O1 D)(Z:Knows Ah XQ D)(C:CloneF D):ZF D where
 frm z h:=by
  have:=G0 K Z C z.neg h.lim (by unfold Db;exact h.len);exact this
 neg z h:=Alx K Z C h
 sign z h:=RO K Z C h
 of_ n h1 h2:=Aqy K Z C n h1 h2
 cmp a b ha hb:=Alv K Z C ha hb
 add a b ha hb:=Alu K Z C (ω _) ha hb
 mul a b ha hb h:=Alw K Z C (ω _) (ω _) ha hb h
 parse s:=Aef K Z C s
theorem Abo(s:ByteArray):Lz 4000 (Hx s).1:=by
 unfold Hx;split
 .rename_i h
  have h1:=GD (Js s).1;have h2:=J4 (Js s).1;have:Lz 4000 ⟨(Js s).2,(Jv (Js s).1).1⟩:=⟨h1,h2⟩;exact this.inb.lz
 .exact⟨Cn,by simp⟩
