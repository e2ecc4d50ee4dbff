/-
  Layer 10: the reference's All.
-/
import Derived.Test.YtlmhajfbpplpoaaGreatUBN
import Derived.Deep.CutBlock
import Derived.Deep.RegionHeld3
import Derived.Deep.AppendLies
import Derived.Deep.DeepCutAuto
set_option linter.unusedSectionVars false
set_option linter.unusedSimpArgs false
set_option linter.unusedVariables false
namespace Go.Proofs.YtlmhajfbpplpoaaGreat
open Go.RowKit

theorem rtoken_info:(Tryz.prog.info? 169).map (fun i=>(i.zero,i.size,i.bytes))=some (some (.agg #[.int .i64 0,.string ⟨#[]⟩,.int .i64 0,.int .i64 0]),4,40):=by kernel_rfl
def RAllRet(r:LexR)(w:World)(e:Ending)(w':World):Prop:=match r with
  |.ok ts=>∃ v,e=.returned (.tuple #[v,.agg #[.int .i64 0,.int .i64 0],.int .i64 0])/\w'.ownsRow w.heap.size 169 4 v ts.length (tksCells ts)/\Below w.heap.size w w'
  |.err c ln co=>e=.returned (.tuple #[.slice none 0 0,.agg #[.int .i64 ln,.int .i64 co],.int .i64 c])/\Below w.heap.size w w'
structure RC (w:World) (v:Value) (ts:List Tk) (W:World):Prop where
  q:Blk W w.heap.size 25 #[.int .i64 0,.int .i64 0]
  own:W.ownsRow (w.heap.size+1) 169 4 v ts.length (tksCells ts)
  lo:w.heap.size+1<=W.heap.size
  below:Below w.heap.size w W
section
variable {w W W':World} {v v':Value} {ts:List Tk}
theorem RC.call(h:RC w v ts W)(hb:Below W.heap.size W W'):RC w v ts W':=⟨h.q.call hb,own_call h.own hb,Nat.le_trans h.lo hb.size,below_call h.below hb⟩
theorem RC.low(h:RC w v ts W){b:Nat}(hb:b<w.heap.size+1):v.ownBlock≠some b:=fun e=>by have:=own_ge h.own (Nat.le_refl _) b e;omega
theorem RC.app(h:RC w v ts W)(t:Tk)(hown:W'.ownsRow (w.heap.size+1) 169 4 v' (ts.length+1) (tksCells ts++tkCells t))(hg:W.grownBy W' v.ownBlock):RC w v' (ts++[t]) W':=
  ⟨(hg.block _ h.q.lt (fun e=>h.low (by omega) e.symm)).trans h.q,by rw[tks_snoc];simpa using hown,Nat.le_trans h.lo hg.size,below_grown h.below hg fun k e=>by have:=own_ge h.own (Nat.le_refl _) k e;omega⟩
end
theorem RC.done{w W:World}{v:Value}{ts:List Tk}(h:RC w v ts W)(a b:Value):((W.setCell ⟨w.heap.size,0,none⟩ a).setCell ⟨w.heap.size,1,none⟩ b).ownsRow w.heap.size 169 4 v ts.length (tksCells ts):=by
  have hg:W.grownBy ((W.setCell ⟨w.heap.size,0,none⟩ a).setCell ⟨w.heap.size,1,none⟩ b) (some w.heap.size):=grown_set (grown_set (grown_of_call (Below.refl _ _)) 0 a) 1 b
  refine own_base (h.own.kept hg ?_) (by omega)
  rcases hv:v.ownBlock with _|k
  . exact .inl rfl
  . right
    have:=own_ge h.own (Nat.le_refl _) k hv
    intro e
    have:=Option.some.inj e
    omega
theorem gap_over:∀(l:List UInt8) (r:Bool),gap false (l.drop (gap r l))=0
  |[],r=>by cases r<;>rfl
  |c::l,r=>by
    have e:∀ r,gap r (c::l)=if c.toNat=10 then gap false l+1 else if r then gap true l+1 else if c.toNat=35 then gap true l+1 else if c.toNat=32\/c.toNat=9 then gap false l+1 else 0:=fun _=>rfl
    by_cases h1:c.toNat=10
    . rw[e r,if_pos h1,List.drop_succ_cons];exact gap_over l false
    . by_cases h2:r=true
      . rw[e r,if_neg h1,if_pos h2,List.drop_succ_cons];exact gap_over l true
      . by_cases h3:c.toNat=35
        . rw[e r,if_neg h1,if_neg h2,if_pos h3,List.drop_succ_cons];exact gap_over l true
        . by_cases h4:c.toNat=32\/c.toNat=9
          . rw[e r,if_neg h1,if_neg h2,if_neg h3,if_pos h4,List.drop_succ_cons];exact gap_over l false
          . rw[e r,if_neg h1,if_neg h2,if_neg h3,if_neg h4,List.drop_zero,e false,if_neg h1,if_neg (by simp),if_neg h3,if_neg h4]
theorem cls_stop(s:ByteArray)(i:Nat)(h:i+gapAt false s i<s.size):clsB (atB s (i+gapAt false s i))≠5:=by
  intro h5
  have hg:gapAt false s (i+gapAt false s i)=0:=by
    have:=gap_over (s.data.toList.drop i) false
    rw[List.drop_drop]at this
    exact this
  by_cases h35:(atB s (i+gapAt false s i)).toNat=35
  . rw[gap_sharp h h35,gap_in h (by omega)]at hg
    omega
  . rw[gap_white h h5 h35]at hg
    omega
theorem tok_sign{s:ByteArray}{j:Nat}(h:j<s.size)(hc:clsB (atB s j)=6):tok1 (s.data.toList.drop j)=.tok 2 (if(decide (j+1<s.size)&&twoB (atB s j) (atB s (j+1)))=true then 2 else 1):=by
  by_cases he:j+1<s.size
  . rw[tok_sign2 h hc he,decide_eq_true he,Bool.true_and]
  . rw[tok_sign1 h hc (by omega),decide_eq_false he,Bool.false_and,if_neg (by simp)]
set_option maxRecDepth 100000 in
set_option maxHeartbeats 16000000 in
theorem rall_any (s:ByteArray) (w:World) (hs:s.size<=9223372036854775807):Calls Tryz.prog 50 #[.string s] w (RAllRet (lexAll s.data.toList) w):=by
  obtain⟨i0,hi0,hz0,hz1,hz2⟩:=info_parts rtoken_info
  by_cases hbig:16384<s.size
  . have e:lexAll s.data.toList=.err 2 1 1:=by unfold lexAll;rw[len_of,if_pos hbig]
    rw[e]
    have q:(16384:Int)<(s.size:Int):=by omega
    go_enter Tryz.func50,Tryz.ntmps50
    go_wp2_with fail
    go_wp2
    exact bodyPost_ret (v:=.tuple #[.slice none 0 0,.agg #[.int .i64 1,.int .i64 1],.int .i64 2]) (by simp[results,Tryz.results50,go_sem,World.cell?_alloc_new]) rfl ⟨rfl,below_one _ _⟩
  have hz:=lexI_zero s hbig
  rw[hz]
  have q:¬ (16384:Int)<(s.size:Int):=by omega
  obtain⟨R,hR⟩:∃ R,lexI s 0=R:=⟨_,rfl⟩
  rw[hR]
  have HRR:=Lib.hid hR
  clear hz hR
  have hsz:s.size<=16384:=by omega
  clear hbig
  have HV:=Lib.hid (fun k (h:k<s.size)=>atB_lt s k h)
  go_enter Tryz.func50,Tryz.ntmps50
  go_wp2_with fail
  have hst:RC w (.slice (some ⟨w.heap.size+1,0,none⟩) 0 0) [] ((w.alloc (.cells #[.int .i64 0,.int .i64 0] 25)).alloc (.cells #[] 169)):=by
    refine⟨(Blk.new w _ _).alloc _,?_,by simp,below_alloc (below_one _ _)⟩
    have:=World.ownsRow_made (base:=w.heap.size+1) (e:=169) (size:=4) (w.alloc (.cells #[.int .i64 0,.int .i64 0] 25)) #[] 0 (by rw[World.size_alloc];exact Nat.le_refl _) (Nat.zero_le _) rfl
    rwa [World.size_alloc]at this
  have HST:=Lib.hid hst
  clear hst
  generalize ((w.alloc (.cells #[.int .i64 0,.int .i64 0] 25)).alloc (.cells #[] 169))=W2 at *
  go_loopw [5,6,7,8,9] (fun v si sl sc sn wr=>∃(i sn' ln co:Nat) (ts:List Tk),i<=s.size/\sn'<=i/\si=.int .i64 i/\sl=.int .i64 ln/\sc=.int .i64 co/\sn=.int .i64 sn'/\(ln,co)=posI s.data.toList sn'/\ln<=sn'+1/\co<=sn'+1/\ts.length<=i/\R=(lexI s i).pre ts/\RC w v ts wr) (fun _ q _ _ _ _=>s.size-(intOf q).toNat)
  case atStart=>exact⟨0,0,1,1,[],Nat.zero_le _,Nat.le_refl _,rfl,rfl,rfl,rfl,rfl,by omega,by omega,Nat.le_refl _,by rw[LexR.pre_nil,HRR.out],HST.out⟩
  case round=>
    obtain⟨i,sn,ln,co,ts,hi,hsn,rfl,rfl,rfl,rfl,hpos,hln,hco,htl,hres,hrc⟩:=hrel
    obtain⟨A5,c5,rfl⟩:=own_shape4 hrc.own
    have HPO:=Lib.hid hpos
    have HRES:=Lib.hid hres
    have HRC:=Lib.hid hrc
    clear hpos hres hrc HST
    go_upto_block 2 with fail
    go_cut [6] from 19 to 176 (fun q wx=>q=.int .i64 ((i+gapAt false s i:Nat):Int)/\wr=wx)
    case first=>
      as_aux_lemma=>
        go_wp2_with fail
        go_loopw [6] (fun q wx=>∃ n:Nat,i+n<=s.size/\n+gapAt false s (i+n)=gapAt false s i/\q=.int .i64 ((i+n:Nat):Int)/\wr=wx) (fun q _=>s.size-(intOf q).toNat)
        case atStart=>exact⟨0,hi,by simp,rfl,rfl⟩
        case round=>
          obtain⟨n,hn,hg,rfl,rfl⟩:=hrel
          have HG:=Lib.hid hg
          clear hg
          obtain⟨j,hj⟩:∃ j,i+n=j:=⟨_,rfl⟩
          rw[hj]at hn HG ⊢
          have HJ:=Lib.hid hj
          clear hj
          by_cases hlt:j<s.size
          . have y0:(0:Int)<=(j:Int):=by omega
            have y1:(j:Int)<(s.size:Int):=by omega
            have y2:decide (j<s.size)=true:=by simpa using hlt
            have HVJ:=Lib.hid (HV.out j hlt)
            by_cases h5:clsB (atB s j)=5
            . by_cases h35:(atB s j).toNat=35
              . have q35:((s[j].toNat:Int) == 35)=true:=by rw[HVJ.out,h35];rfl
                have H5:=Lib.hid h5
                have H35:=Lib.hid h35
                clear h5 h35
                go_wp2_with fail
                refine(class_any (atB s j) _ wr (by rw[HVJ.out])).mono ?_
                rw[H5.out]
                rintro e w' ⟨rfl,rfl⟩
                go_wp2_with fail
                go_loopw [6] (fun q wx=>∃ m:Nat,j+m<=s.size/\m+gapAt true s (j+m)=gapAt true s j/\q=.int .i64 ((j+m:Nat):Int)/\wr=wx) (fun q _=>s.size-(intOf q).toNat)
                case atStart=>exact⟨0,Nat.le_of_lt hlt,by simp,rfl,rfl⟩
                case round=>
                  obtain⟨m,hm,hgm,rfl,rfl⟩:=hrel
                  have HGM:=Lib.hid hgm
                  clear hgm
                  obtain⟨k,hk⟩:∃ k,j+m=k:=⟨_,rfl⟩
                  rw[hk]at hm HGM ⊢
                  have HK:=Lib.hid hk
                  clear hk
                  by_cases hlk:k<s.size
                  . have x0:(0:Int)<=(k:Int):=by omega
                    have x1:(k:Int)<(s.size:Int):=by omega
                    have x2:decide (k<s.size)=true:=by simpa using hlk
                    have HVK:=Lib.hid (HV.out k hlk)
                    by_cases h10:(atB s k).toNat=10
                    . have q10:((s[k].toNat:Int) != 10)=false:=by rw[HVK.out,h10];rfl
                      have HNE:=Lib.hid (show j<k by
                        rcases Nat.lt_or_ge j k with h|h
                        . exact h
                        . exfalso
                          have:j=k:=by have:=HK.out;omega
                          have h2:=H35.out
                          rw[this]at h2
                          omega)
                      have HX:=Lib.hid (show k-i+gapAt false s k=gapAt false s i by
                        have h1:=HG.out
                        rw[gap_sharp hlt H35.out,←HGM.out,gap_out hlk h10]at h1
                        have h2:=HJ.out
                        have h3:=HK.out
                        omega)
                      clear h10
                      go_wp2_with fail
                      go_roundw
                      case rel=>
                        have h2:i+(k-i)=k:=by have:=HJ.out;have:=HK.out;omega
                        refine⟨k-i,by omega,?_,by rw[h2],trivial⟩
                        rw[h2]
                        exact HX.out
                      case measure=>have:=HNE.out;simp[intOf];omega
                    . have q10:((s[k].toNat:Int) != 10)=true:=by rw[HVK.out,bne_iff_ne];omega
                      have HS:=Lib.hid (gap_in hlk h10)
                      clear h10
                      go_wp2_with fail
                      go_roundw
                      case rel=>
                        have h2:j+(m+1)=k+1:=by have:=HK.out;omega
                        refine⟨m+1,by omega,?_,by rw[h2];go_num,trivial⟩
                        have h1:=HGM.out
                        rw[HS.out]at h1
                        rw[h2]
                        omega
                      case measure=>simp[intOf];omega
                  . obtain rfl:k=s.size:=by omega
                    have x1:¬ (s.size:Int)<(s.size:Int):=by omega
                    have x2:decide (s.size<s.size)=false:=by simp
                    have HX:=Lib.hid (show s.size-i+gapAt false s s.size=gapAt false s i by
                      have h1:=HG.out
                      rw[gap_sharp hlt H35.out,←HGM.out]at h1
                      rw[gapAt_end]at h1 ⊢
                      have h2:=HJ.out
                      have h3:=HK.out
                      omega)
                    go_wp2_with fail
                    go_roundw
                    case rel=>
                      have h2:i+(s.size-i)=s.size:=by omega
                      refine⟨s.size-i,by omega,?_,by rw[h2],trivial⟩
                      rw[h2]
                      exact HX.out
                    case measure=>simp[intOf];omega
              . have q35:((s[j].toNat:Int) == 35)=false:=by rw[HVJ.out,beq_eq_false_iff_ne];omega
                have HS:=Lib.hid (gap_white hlt h5 h35)
                have H5:=Lib.hid h5
                clear h5 h35
                go_wp2_with fail
                refine(class_any (atB s j) _ wr (by rw[HVJ.out])).mono ?_
                rw[H5.out]
                rintro e w' ⟨rfl,rfl⟩
                go_wp2_with fail
                go_roundw
                case rel=>
                  have h2:i+(n+1)=j+1:=by have:=HJ.out;omega
                  refine⟨n+1,by omega,?_,by rw[h2];go_num,trivial⟩
                  have h1:=HG.out
                  rw[HS.out]at h1
                  rw[h2]
                  omega
                case measure=>simp[intOf];omega
            . have H0:=Lib.hid (show i+gapAt false s i=j by have h1:=HG.out;rw[gap_none hlt h5]at h1;have:=HJ.out;omega)
              have h5':((clsB (atB s j):Int) == 5)=false:=by rw[beq_eq_false_iff_ne];omega
              have H5:=Lib.hid h5'
              clear h5 h5'
              go_wp2_with fail
              refine(class_any (atB s j) _ wr (by rw[HVJ.out])).mono ?_
              have h5:=H5.out
              generalize clsB (atB s j)=m at *
              rintro e w' ⟨rfl,rfl⟩
              go_wp2_with fail
              go_meet
              exact⟨by rw[H0.out],rfl⟩
          . obtain rfl:j=s.size:=by omega
            have y1:¬ (s.size:Int)<(s.size:Int):=by omega
            have y2:decide (s.size<s.size)=false:=by simp
            have H0:=Lib.hid (show i+gapAt false s i=s.size by have h1:=HG.out;rw[gapAt_end]at h1;have:=HJ.out;omega)
            go_wp2_with fail
            go_meet
            exact⟨by rw[H0.out],rfl⟩
    case rest=>
      obtain⟨rfl,rfl⟩:=hcut
      obtain⟨j,hj⟩:∃ j,i+gapAt false s i=j:=⟨_,rfl⟩
      have hjs:j<=s.size:=by rw[←hj];exact gapAt_le s i hi
      have hij:i<=j:=by rw[←hj];exact Nat.le_add_right _ _
      have HEQ:=Lib.hid (hj▸lexI_eq s i)
      rw[hj]
      have HJ0:=Lib.hid hj
      clear hj
      go_upto_block 6 with fail
      go_cut [7,8,9] from 19 to 176 (fun l c q wx=>(∃(ln' co':Nat),l=.int .i64 ln'/\c=.int .i64 co'/\q=.int .i64 j/\(ln',co')=posI s.data.toList j/\ln'<=j+1/\co'<=j+1)/\wr=wx)
      case first=>
        as_aux_lemma=>
          go_wp2_with fail
          go_loopw [7,8,9] (fun l c q wx=>∃(m ln' co':Nat),m<=j/\l=.int .i64 ln'/\c=.int .i64 co'/\q=.int .i64 m/\(ln',co')=posI s.data.toList m/\ln'<=m+1/\co'<=m+1/\wr=wx) (fun _ _ q _=>j-(intOf q).toNat)
          case atStart=>exact⟨sn,ln,co,by omega,rfl,rfl,rfl,HPO.out,hln,hco,rfl⟩
          case round=>
            obtain⟨m,ln',co',hm,rfl,rfl,rfl,hp,hln',hco',rfl⟩:=hrel
            have HP:=Lib.hid hp
            clear hp
            by_cases hlt:m<j
            . have y0:(0:Int)<=(m:Int):=by omega
              have y1:(m:Int)<(j:Int):=by omega
              have y2:(m:Int)<(s.size:Int):=by omega
              have hms:m<s.size:=by omega
              have HVJ:=Lib.hid (HV.out m hms)
              have HPS:=Lib.hid (posI_next s m hms)
              by_cases h10:(atB s m).toNat=10
              . have q10:((s[m].toNat:Int) == 10)=true:=by rw[HVJ.out,h10];rfl
                have HNP:=Lib.hid (show (ln'+1,1)=posI s.data.toList (m+1) by rw[←HPS.out,←HP.out];unfold adv1;rw[if_pos h10])
                clear h10
                go_wp2_with fail
                go_roundw
                case rel=>exact⟨m+1,ln'+1,1,by omega,by go_num,by go_num,by go_num,HNP.out,by omega,by omega,trivial⟩
                case measure=>simp[intOf];omega
              . have q10:((s[m].toNat:Int) == 10)=false:=by rw[HVJ.out,beq_eq_false_iff_ne];omega
                have HNP:=Lib.hid (show (ln',co'+1)=posI s.data.toList (m+1) by rw[←HPS.out,←HP.out];unfold adv1;rw[if_neg h10])
                clear h10
                go_wp2_with fail
                go_roundw
                case rel=>exact⟨m+1,ln',co'+1,by omega,by go_num,by go_num,by go_num,HNP.out,by omega,by omega,trivial⟩
                case measure=>simp[intOf];omega
            . obtain rfl:m=j:=by omega
              have y1:¬ (m:Int)<(m:Int):=by omega
              go_wp2_with fail
              go_meet
              exact⟨⟨ln',co',rfl,rfl,rfl,HP.out,hln',hco'⟩,rfl⟩
      case rest=>
        obtain⟨⟨ln',co',rfl,rfl,rfl,hpp,hln',hco'⟩,rfl⟩:=hcut
        have HPP:=Lib.hid hpp
        clear hpp HPO hln hco
        by_cases hend:j=s.size
        . subst hend
          have y1:((s.size:Int) == (s.size:Int))=true:=by simp
          have hRR:R=.ok (ts++[⟨5,[],ln',co'⟩]):=by
            rw[HRES.out,HEQ.out,tok_end,←HPP.out];rfl
          have HRR2:=Lib.hid hRR
          clear hRR
          obtain⟨k4,k5,k6⟩:=boxes2 wr 25 169 #[.int .i64 ln',.int .i64 co'] #[.int .i64 5,.string ⟨#[]⟩,.int .i64 ln',.int .i64 co']
          have HK6:=Lib.hid k5
          have HC6:=Lib.hid (HRC.out.call k6)
          have HO:=Lib.hid HC6.out.own
          clear k4 k5 k6
          go_wp2_with (at_builtin;refine wpList_append_own_at _ rfl _ _ 100 rfl (w.heap.size+1) 169 i0 (.agg #[.int .i64 0,.string ⟨#[]⟩,.int .i64 0,.int .i64 0]) 4 40 Tryz.underlying100 hi0 hz0 hz1 hz2 rfl (by decide) _ _ _ rfl HO.out ⟨wr.heap.size+1,0,none⟩ 1 1 [.int .i64 5,.string ⟨#[]⟩,.int .i64 ln',.int .i64 co'] rfl rfl ?c1 ?c2 ?c3 ?c4 ?c5 ?_)
          case c1=>
            intro m u hu
            have:=HK6.out.cell m
            rw[add_none,Nat.zero_add,this]
            simpa using hu
          case c2=>intro u hu;simp at hu;rcases hu with rfl|rfl|rfl|rfl<;>rfl
          case c3=>unfold maxLen;omega
          case c4=>omega
          case c5=>exact HC6.out.lo
          intro v' w7 hown7 hgrow _ hloc
          have hc7:=HC6.out.app ⟨5,[],ln',co'⟩ hown7 hgrow
          obtain⟨A7,c7,rfl⟩:=own_shape4 hown7
          have HC7:=Lib.hid hc7
          obtain⟨q0c,q1c⟩:=cells2' hc7.q
          have qf0:=hc7.q.frozen 0
          have qf1:=hc7.q.frozen 1
          clear hc7 hown7 hgrow hloc
          go_wp2
          obtain⟨e0,e1⟩:=cells2' (blk_set2' HC7.out.q (.int .i64 0) (.int .i64 0))
          refine bodyPost_ret (v:=.tuple #[.slice A7 (ts.length+1) c7,.agg #[.int .i64 0,.int .i64 0],.int .i64 0]) (by simp[results,Tryz.results50,go_sem,e0,e1]) rfl ?_
          rw[HRR2.out]
          exact⟨_,rfl,by simpa using HC7.out.done _ _,below_set (below_set HC7.out.below (Nat.le_refl _)) (Nat.le_refl _)⟩
        . have hjl:j<s.size:=by omega
          have y1:((j:Int) == (s.size:Int))=false:=by rw[beq_eq_false_iff_ne];omega
          have y0:(0:Int)<=(j:Int):=by omega
          have y2:(j:Int)<(s.size:Int):=by omega
          have HVJ:=Lib.hid (HV.out j hjl)
          have h5:clsB (atB s j)≠5:=by have:=cls_stop s i (by rw[HJ0.out];exact hjl);rwa [HJ0.out]at this
          have h6:=(cls_tok (atB s j)).2.2.2.2
          clear hend
          go_wp2_with fail
          refine(class_any (atB s j) _ _ (by rw[HVJ.out])).mono ?_
          have HKP:=Lib.hid (Blk.new wr 25 #[.int .i64 ln',.int .i64 co'])
          have HC1:=Lib.hid (HRC.out.call (below_one wr (.cells #[.int .i64 ln',.int .i64 co'] 25)))
          have HS1:=Lib.hid (World.size_alloc wr (.cells #[.int .i64 ln',.int .i64 co'] 25))
          generalize (wr.alloc (.cells #[.int .i64 ln',.int .i64 co'] 25))=W1 at *
          obtain⟨mc,hmc⟩:∃ mc,clsB (atB s j)=mc:=⟨_,rfl⟩
          rw[hmc]at h5 h6 ⊢
          have HMC:=Lib.hid hmc
          clear hmc
          rintro e w' ⟨rfl,rfl⟩
          have hcs:mc=0\/mc=3\/mc=1\/mc=2\/mc=4\/mc=6:=by omega
          clear h5 h6
          rcases hcs with rfl|rfl|rfl|rfl|rfl|rfl
          . as_aux_lemma=>
              have hRR:R=.err 100 ln' co':=by
                rw[HRES.out,HEQ.out,tok_bad hjl (.inl HMC.out),←HPP.out];rfl
              have HRR2:=Lib.hid hRR
              clear hRR
              obtain⟨p0,p1⟩:=cells2' HKP.out
              obtain⟨q0c,q1c⟩:=cells2' HC1.out.q
              have qf0:=HC1.out.q.frozen 0
              have qf1:=HC1.out.q.frozen 1
              have l3:wr.heap.size<W1.heap.size:=lt_size p0
              have l4:w.heap.size<W1.heap.size:=lt_size q0c
              go_wp2_with fail
              go_region
              all_goals
                go_wp2
                have hbw:=below_drew (below_set (u:=.int .i64 co') (p:=⟨w.heap.size,1,none⟩) (below_set (u:=.int .i64 ln') (p:=⟨w.heap.size,0,none⟩) HC1.out.below (Nat.le_refl _)) (Nat.le_refl _))
                obtain⟨e0,e1⟩:=cells2' (blk_set2' HC1.out.q (.int .i64 ln') (.int .i64 co'))
                clear p0 p1 q0c q1c qf0 qf1 l3 l4
                generalize ((W1.setCell ⟨w.heap.size,0,none⟩ (.int .i64 ln')).setCell ⟨w.heap.size,1,none⟩ (.int .i64 co'))=W9 at *
                have g0:W9.drew.cell? ⟨w.heap.size,0,none⟩=some (.int .i64 ln'):=e0
                have g1:W9.drew.cell? ⟨w.heap.size,1,none⟩=some (.int .i64 co'):=e1
                refine bodyPost_ret (v:=.tuple #[.slice none 0 0,.agg #[.int .i64 ln',.int .i64 co'],.int .i64 100]) (by simp[results,Tryz.results50,go_sem,g0,g1]) rfl ?_
                rw[HRR2.out]
                exact⟨rfl,hbw⟩
          . as_aux_lemma=>
              have hRR:R=.err 100 ln' co':=by
                rw[HRES.out,HEQ.out,tok_bad hjl (.inr HMC.out),←HPP.out];rfl
              have HRR2:=Lib.hid hRR
              clear hRR
              obtain⟨p0,p1⟩:=cells2' HKP.out
              obtain⟨q0c,q1c⟩:=cells2' HC1.out.q
              have qf0:=HC1.out.q.frozen 0
              have qf1:=HC1.out.q.frozen 1
              have l3:wr.heap.size<W1.heap.size:=lt_size p0
              have l4:w.heap.size<W1.heap.size:=lt_size q0c
              go_wp2_with fail
              go_region
              all_goals
                go_wp2
                have hbw:=below_drew (below_set (u:=.int .i64 co') (p:=⟨w.heap.size,1,none⟩) (below_set (u:=.int .i64 ln') (p:=⟨w.heap.size,0,none⟩) HC1.out.below (Nat.le_refl _)) (Nat.le_refl _))
                obtain⟨e0,e1⟩:=cells2' (blk_set2' HC1.out.q (.int .i64 ln') (.int .i64 co'))
                clear p0 p1 q0c q1c qf0 qf1 l3 l4
                generalize ((W1.setCell ⟨w.heap.size,0,none⟩ (.int .i64 ln')).setCell ⟨w.heap.size,1,none⟩ (.int .i64 co'))=W9 at *
                have g0:W9.drew.cell? ⟨w.heap.size,0,none⟩=some (.int .i64 ln'):=e0
                have g1:W9.drew.cell? ⟨w.heap.size,1,none⟩=some (.int .i64 co'):=e1
                refine bodyPost_ret (v:=.tuple #[.slice none 0 0,.agg #[.int .i64 ln',.int .i64 co'],.int .i64 100]) (by simp[results,Tryz.results50,go_sem,g0,g1]) rfl ?_
                rw[HRR2.out]
                exact⟨rfl,hbw⟩
          . as_aux_lemma=>
              go_upto_block 9 with fail
              go_cut [6] from 19 to 176 (fun q wx=>q=.int .i64 ((j+spanAt innB s j:Nat):Int)/\W1=wx)
              case first=>
                go_wp2_with fail
                go_loopw [6] (fun q wx=>∃ n:Nat,1<=n/\j+n<=s.size/\n+spanAt innB s (j+n)=spanAt innB s j/\q=.int .i64 ((j+n:Nat):Int)/\W1=wx) (fun q _=>s.size-(intOf q).toNat)
                case atStart=>
                  refine⟨1,Nat.le_refl _,hjl,?_,by go_num,rfl⟩
                  rw[spanAt_at innB s j hjl,if_pos (by have h1:=(cls_facts (atB s j)).2.2;rw[HMC.out]at h1;exact h1.symm),Nat.add_comm]
                case round=>
                  obtain⟨n,hn1,hn,hg,rfl,rfl⟩:=hrel
                  have HG:=Lib.hid hg
                  clear hg
                  obtain⟨m,hm⟩:∃ m,j+n=m:=⟨_,rfl⟩
                  rw[hm]at hn HG ⊢
                  have HM:=Lib.hid hm
                  clear hm
                  by_cases hlt:m<s.size
                  . have x0:(0:Int)<=(m:Int):=by omega
                    have x1:(m:Int)<(s.size:Int):=by omega
                    have x2:decide (m<s.size)=true:=by simpa using hlt
                    have HVM:=Lib.hid (HV.out m hlt)
                    rcases hq:innB (atB s m) with _|_
                    . have HX:=Lib.hid (show j+spanAt innB s j=m by
                        have h1:=HG.out
                        rw[spanAt_at innB s m hlt,hq]at h1
                        have:=HM.out
                        simp at h1
                        omega)
                      have hx2:clsB (atB s m)<1\/1<=clsB (atB s m)/\3<clsB (atB s m):=by
                        have h2:=(cls_facts (atB s m)).2.2
                        rw[hq,Bool.and_eq_false_iff,decide_eq_false_iff_not,decide_eq_false_iff_not]at h2
                        omega
                      clear hq
                      obtain⟨m2,hm2⟩:∃ m2,clsB (atB s m)=m2:=⟨_,rfl⟩
                      rw[hm2]at hx2
                      have HM2:=Lib.hid hm2
                      clear hm2
                      rcases hx2 with hx2|hx2
                      . have w2:¬ (1:Int)<=(m2:Int):=by omega
                        clear hx2
                        go_wp2_with fail
                        refine(class_any (atB s m) _ W1 (by rw[HVM.out])).mono ?_
                        rw[HM2.out]
                        rintro e w' ⟨rfl,rfl⟩
                        go_wp2_with fail
                        go_meet
                        exact⟨by rw[HX.out],rfl⟩
                      . have w2:(1:Int)<=(m2:Int):=by omega
                        have w3:¬ (m2:Int)<=3:=by omega
                        clear hx2
                        go_wp2_with fail
                        refine(class_any (atB s m) _ W1 (by rw[HVM.out])).mono ?_
                        rw[HM2.out]
                        rintro e w' ⟨rfl,rfl⟩
                        go_wp2_with fail
                        refine(class_any (atB s m) _ W1 (by rw[HVM.out])).mono ?_
                        rw[HM2.out]
                        rintro e w' ⟨rfl,rfl⟩
                        go_wp2_with fail
                        go_meet
                        exact⟨by rw[HX.out],rfl⟩
                    . have HX:=Lib.hid (show n+1+spanAt innB s (m+1)=spanAt innB s j by
                        have h1:=HG.out
                        rw[spanAt_at innB s m hlt,hq,if_pos rfl]at h1
                        omega)
                      have hx2:1<=clsB (atB s m)/\clsB (atB s m)<=3:=by
                        have h2:=(cls_facts (atB s m)).2.2
                        rw[hq,Bool.and_eq_true,decide_eq_true_eq,decide_eq_true_eq]at h2
                        exact h2
                      clear hq
                      obtain⟨m2,hm2⟩:∃ m2,clsB (atB s m)=m2:=⟨_,rfl⟩
                      rw[hm2]at hx2
                      have HM2:=Lib.hid hm2
                      have w2:(1:Int)<=(m2:Int):=by omega
                      have w3:(m2:Int)<=3:=by omega
                      clear hx2 hm2
                      go_wp2_with fail
                      refine(class_any (atB s m) _ W1 (by rw[HVM.out])).mono ?_
                      rw[HM2.out]
                      rintro e w' ⟨rfl,rfl⟩
                      go_wp2_with fail
                      refine(class_any (atB s m) _ W1 (by rw[HVM.out])).mono ?_
                      rw[HM2.out]
                      rintro e w' ⟨rfl,rfl⟩
                      go_wp2_with fail
                      go_roundw
                      case rel=>
                        have h2:j+(n+1)=m+1:=by have:=HM.out;omega
                        refine⟨n+1,by omega,by omega,?_,by rw[h2];go_num,trivial⟩
                        rw[h2]
                        exact HX.out
                      case measure=>simp[intOf];omega
                  . obtain rfl:m=s.size:=by omega
                    have x1:¬ (s.size:Int)<(s.size:Int):=by omega
                    have x2:decide (s.size<s.size)=false:=by simp
                    have HX:=Lib.hid (show j+spanAt innB s j=s.size by
                      have h1:=HG.out
                      rw[spanAt_end]at h1
                      have:=HM.out
                      omega)
                    go_wp2_with fail
                    go_meet
                    exact⟨by rw[HX.out],rfl⟩
              case rest=>
                obtain⟨rfl,rfl⟩:=hcut
                obtain⟨n,hsp⟩:∃ n,spanAt innB s j=n:=⟨_,rfl⟩
                have hle:=spanAt_le innB s j hjs
                have hn1:1<=n:=by rw[←hsp,spanAt_at innB s j hjl,if_pos (by have h1:=(cls_facts (atB s j)).2.2;rw[HMC.out]at h1;exact h1.symm)];omega
                rw[hsp]at hle ⊢
                have HSP:=Lib.hid hsp
                clear hsp
                obtain⟨k,hk⟩:∃ k,j+n=k:=⟨_,rfl⟩
                rw[hk]at hle ⊢
                have HKN:=Lib.hid hk
                have hw:IntKind.i64.wrap ((k:Int)-(j:Int))=(n:Int):=by rw[Go.IntWalk.i64_in _ (by omega)];omega
                have hjk:(k:Int)-(j:Int)=(n:Int):=by omega
                have hkj:j<k:=by omega
                clear hk
                by_cases hbig:20<n
                . have q1:(20:Int)<(n:Int):=by omega
                  have hRR:R=.err 2 ln' co':=by
                    rw[HRES.out,HEQ.out,((tok_word hjl HMC.out).trans (if_pos (by rw[HSP.out];exact hbig))),←HPP.out];rfl
                  have HRR2:=Lib.hid hRR
                  clear hRR
                  obtain⟨p0,p1⟩:=cells2' HKP.out
                  obtain⟨q0c,q1c⟩:=cells2' HC1.out.q
                  have qf0:=HC1.out.q.frozen 0
                  have qf1:=HC1.out.q.frozen 1
                  have l3:wr.heap.size<W1.heap.size:=lt_size p0
                  have l4:w.heap.size<W1.heap.size:=lt_size q0c
                  go_wp2_with fail
                  go_region
                  all_goals
                    go_wp2
                    have hbw:=below_drew (below_set (u:=.int .i64 co') (p:=⟨w.heap.size,1,none⟩) (below_set (u:=.int .i64 ln') (p:=⟨w.heap.size,0,none⟩) HC1.out.below (Nat.le_refl _)) (Nat.le_refl _))
                    obtain⟨e0,e1⟩:=cells2' (blk_set2' HC1.out.q (.int .i64 ln') (.int .i64 co'))
                    clear p0 p1 q0c q1c qf0 qf1 l3 l4
                    generalize ((W1.setCell ⟨w.heap.size,0,none⟩ (.int .i64 ln')).setCell ⟨w.heap.size,1,none⟩ (.int .i64 co'))=W9 at *
                    have g0:W9.drew.cell? ⟨w.heap.size,0,none⟩=some (.int .i64 ln'):=e0
                    have g1:W9.drew.cell? ⟨w.heap.size,1,none⟩=some (.int .i64 co'):=e1
                    refine bodyPost_ret (v:=.tuple #[.slice none 0 0,.agg #[.int .i64 ln',.int .i64 co'],.int .i64 2]) (by simp[results,Tryz.results50,go_sem,g0,g1]) rfl ?_
                    rw[HRR2.out]
                    exact⟨rfl,hbw⟩
                . have q1:¬ (20:Int)<(n:Int):=by omega
                  have hRR:R=(lexI s k).pre (ts++[⟨1,(s.extract j k).data.toList,ln',co'⟩]):=by
                    rw[HRES.out,HEQ.out,((tok_word hjl HMC.out).trans (if_neg (by rw[HSP.out];exact hbig))),HSP.out,←HPP.out,←LexR.pre_more,←HKN.out,cut_of]
                  have HRR2:=Lib.hid hRR
                  clear hRR
                  have z1:(j:Int)<=(k:Int):=by omega
                  have z2:(k:Int)<=(s.size:Int):=by omega
                  obtain⟨p0,p1⟩:=cells2' HKP.out
                  have l3:wr.heap.size<W1.heap.size:=lt_size p0
                  have HNB:=Lib.hid (show (Value.slice A5 ts.length c5).ownBlock≠some wr.heap.size by
                    intro e
                    have:=(HRC.out.own.lt _ e).2
                    omega)
                  have hown:=HC1.out.own
                  have hbs:=HC1.out.lo
                  go_wp2_with fail
                  go_region_held3 (fun w'=>w'.cell? ⟨wr.heap.size,0,none⟩=some (.int .i64 ln')/\w'.cell? ⟨wr.heap.size,1,none⟩=some (.int .i64 co'))
                    (first
                      |go_keep
                      | (go_split_ands
                         refine⟨?_,?_⟩
                         . (rw[hgrow.cell_far _ (by simp;omega) (Ne.symm HNB.out)];assumption)
                         . (rw[hgrow.cell_far _ (by simp;omega) (Ne.symm HNB.out)];assumption)))
                    ((refine step_append_lies _ (by rfl) _ _ _ (by rfl) (w.heap.size+1) 169 i0 (.agg #[.int .i64 0,.string ⟨#[]⟩,.int .i64 0,.int .i64 0]) 4 40 Tryz.underlying100 hi0 hz0 hz1 hz2 rfl (by omega) (.slice A5 ts.length c5) ts.length (tksCells ts) (by rfl) ((hown.alloc _).drew)
                        ⟨W1.heap.size,0,none⟩ 1 1 [.int .i64 1,.string (s.extract j k),.int .i64 ln',.int .i64 co'] (by rfl) (by rfl) (World.news_of_block (cs:=#[.int .i64 1,.string (s.extract j k),.int .i64 ln',.int .i64 co']) (t:=169) (fr:=(0,0)) (heap_alloc_new W1 _)) (by simp[Value.oneCell'])
                        (by omega) (by unfold maxLen;omega) (by omega) (by simp;omega) (W1.heap.size+1) (by simp) ?_;intro gg cap w1 hown1 hgrow hat hlt))
                  have hrc7:=(HC1.out.call (below_drew (below_one W1 _))).app ⟨1,(s.extract j k).data.toList,ln',co'⟩ hown1 hgrow
                  have HRC7:=Lib.hid hrc7
                  clear hrc7 hown1 hgrow
                  go_wp2_with fail
                  refine⟨⟨k,j,ln',co',ts++[⟨1,(s.extract j k).data.toList,ln',co'⟩],by omega,by omega,rfl,rfl,rfl,rfl,HPP.out,hln',hco',by simp;omega,HRR2.out,HRC7.out⟩,by simp[intOf];omega⟩
          . as_aux_lemma=>
              go_upto_block 11 with fail
              go_cut [6] from 19 to 176 (fun q wx=>q=.int .i64 ((j+spanAt digB s j:Nat):Int)/\W1=wx)
              case first=>
                go_wp2_with fail
                go_loopw [6] (fun q wx=>∃ n:Nat,1<=n/\j+n<=s.size/\n+spanAt digB s (j+n)=spanAt digB s j/\q=.int .i64 ((j+n:Nat):Int)/\W1=wx) (fun q _=>s.size-(intOf q).toNat)
                case atStart=>
                  refine⟨1,Nat.le_refl _,hjl,?_,by go_num,rfl⟩
                  rw[spanAt_at digB s j hjl,if_pos (by have h1:=(cls_facts (atB s j)).1;rw[HMC.out]at h1;exact h1.symm),Nat.add_comm]
                case round=>
                  obtain⟨n,hn1,hn,hg,rfl,rfl⟩:=hrel
                  have HG:=Lib.hid hg
                  clear hg
                  obtain⟨m,hm⟩:∃ m,j+n=m:=⟨_,rfl⟩
                  rw[hm]at hn HG ⊢
                  have HM:=Lib.hid hm
                  clear hm
                  by_cases hlt:m<s.size
                  . have x0:(0:Int)<=(m:Int):=by omega
                    have x1:(m:Int)<(s.size:Int):=by omega
                    have x2:decide (m<s.size)=true:=by simpa using hlt
                    have HVM:=Lib.hid (HV.out m hlt)
                    rcases hq:digB (atB s m) with _|_
                    . have HX:=Lib.hid (show j+spanAt digB s j=m by
                        have h1:=HG.out
                        rw[spanAt_at digB s m hlt,hq]at h1
                        have:=HM.out
                        simp at h1
                        omega)
                      have hx2:((clsB (atB s m):Int) == 2)=false:=by
                        have h2:=(cls_facts (atB s m)).1
                        rw[hq,beq_eq_false_iff_ne]at h2
                        rw[beq_eq_false_iff_ne];omega
                      clear hq
                      obtain⟨m2,hm2⟩:∃ m2,clsB (atB s m)=m2:=⟨_,rfl⟩
                      rw[hm2]at hx2
                      have HM2:=Lib.hid hm2
                      clear hm2
                      go_wp2_with fail
                      refine(class_any (atB s m) _ W1 (by rw[HVM.out])).mono ?_
                      rw[HM2.out]
                      rintro e w' ⟨rfl,rfl⟩
                      go_wp2_with fail
                      go_meet
                      exact⟨by rw[HX.out],rfl⟩
                    . have HX:=Lib.hid (show n+1+spanAt digB s (m+1)=spanAt digB s j by
                        have h1:=HG.out
                        rw[spanAt_at digB s m hlt,hq,if_pos rfl]at h1
                        omega)
                      have H2:=Lib.hid (show clsB (atB s m)=2 by
                        have h2:=(cls_facts (atB s m)).1
                        rw[hq,beq_iff_eq]at h2
                        exact h2)
                      clear hq
                      go_wp2_with fail
                      refine(class_any (atB s m) _ W1 (by rw[HVM.out])).mono ?_
                      rw[H2.out]
                      rintro e w' ⟨rfl,rfl⟩
                      go_wp2_with fail
                      go_roundw
                      case rel=>
                        have h2:j+(n+1)=m+1:=by have:=HM.out;omega
                        refine⟨n+1,by omega,by omega,?_,by rw[h2];go_num,trivial⟩
                        rw[h2]
                        exact HX.out
                      case measure=>simp[intOf];omega
                  . obtain rfl:m=s.size:=by omega
                    have x1:¬ (s.size:Int)<(s.size:Int):=by omega
                    have x2:decide (s.size<s.size)=false:=by simp
                    have HX:=Lib.hid (show j+spanAt digB s j=s.size by
                      have h1:=HG.out
                      rw[spanAt_end]at h1
                      have:=HM.out
                      omega)
                    go_wp2_with fail
                    go_meet
                    exact⟨by rw[HX.out],rfl⟩
              case rest=>
                obtain⟨rfl,rfl⟩:=hcut
                obtain⟨n,hsp⟩:∃ n,spanAt digB s j=n:=⟨_,rfl⟩
                have hle:=spanAt_le digB s j hjs
                have hn1:1<=n:=by rw[←hsp,spanAt_at digB s j hjl,if_pos (by have h1:=(cls_facts (atB s j)).1;rw[HMC.out]at h1;exact h1.symm)];omega
                rw[hsp]at hle ⊢
                have HSP:=Lib.hid hsp
                clear hsp
                obtain⟨k,hk⟩:∃ k,j+n=k:=⟨_,rfl⟩
                rw[hk]at hle ⊢
                have HKN:=Lib.hid hk
                have hw:IntKind.i64.wrap ((k:Int)-(j:Int))=(n:Int):=by rw[Go.IntWalk.i64_in _ (by omega)];omega
                have hjk:(k:Int)-(j:Int)=(n:Int):=by omega
                have hkj:j<k:=by omega
                clear hk
                by_cases hbig:60<n
                . have q1:(60:Int)<(n:Int):=by omega
                  have hRR:R=.err 2 ln' co':=by
                    rw[HRES.out,HEQ.out,((tok_num hjl HMC.out).trans (if_pos (by rw[HSP.out];exact hbig))),←HPP.out];rfl
                  have HRR2:=Lib.hid hRR
                  clear hRR
                  obtain⟨p0,p1⟩:=cells2' HKP.out
                  obtain⟨q0c,q1c⟩:=cells2' HC1.out.q
                  have qf0:=HC1.out.q.frozen 0
                  have qf1:=HC1.out.q.frozen 1
                  have l3:wr.heap.size<W1.heap.size:=lt_size p0
                  have l4:w.heap.size<W1.heap.size:=lt_size q0c
                  go_wp2_with fail
                  go_region
                  all_goals
                    go_wp2
                    have hbw:=below_drew (below_set (u:=.int .i64 co') (p:=⟨w.heap.size,1,none⟩) (below_set (u:=.int .i64 ln') (p:=⟨w.heap.size,0,none⟩) HC1.out.below (Nat.le_refl _)) (Nat.le_refl _))
                    obtain⟨e0,e1⟩:=cells2' (blk_set2' HC1.out.q (.int .i64 ln') (.int .i64 co'))
                    clear p0 p1 q0c q1c qf0 qf1 l3 l4
                    generalize ((W1.setCell ⟨w.heap.size,0,none⟩ (.int .i64 ln')).setCell ⟨w.heap.size,1,none⟩ (.int .i64 co'))=W9 at *
                    have g0:W9.drew.cell? ⟨w.heap.size,0,none⟩=some (.int .i64 ln'):=e0
                    have g1:W9.drew.cell? ⟨w.heap.size,1,none⟩=some (.int .i64 co'):=e1
                    refine bodyPost_ret (v:=.tuple #[.slice none 0 0,.agg #[.int .i64 ln',.int .i64 co'],.int .i64 2]) (by simp[results,Tryz.results50,go_sem,g0,g1]) rfl ?_
                    rw[HRR2.out]
                    exact⟨rfl,hbw⟩
                . have q1:¬ (60:Int)<(n:Int):=by omega
                  by_cases hzz:1<n/\(atB s j).toNat=48
                  . have q2:(1:Int)<(n:Int):=by omega
                    have q3:((s[j].toNat:Int) == 48)=true:=by rw[HVJ.out,hzz.2];rfl
                    have hRR:R=.err 20 ln' co':=by
                      rw[HRES.out,HEQ.out,((tok_num hjl HMC.out).trans ((if_neg (by rw[HSP.out];exact hbig)).trans (if_pos (by rw[HSP.out];exact hzz)))),←HPP.out];rfl
                    have HRR2:=Lib.hid hRR
                    clear hRR
                    obtain⟨p0,p1⟩:=cells2' HKP.out
                    obtain⟨q0c,q1c⟩:=cells2' HC1.out.q
                    have qf0:=HC1.out.q.frozen 0
                    have qf1:=HC1.out.q.frozen 1
                    have l3:wr.heap.size<W1.heap.size:=lt_size p0
                    have l4:w.heap.size<W1.heap.size:=lt_size q0c
                    go_wp2_with fail
                    go_region
                    all_goals
                      go_wp2
                      have hbw:=below_drew (below_set (u:=.int .i64 co') (p:=⟨w.heap.size,1,none⟩) (below_set (u:=.int .i64 ln') (p:=⟨w.heap.size,0,none⟩) HC1.out.below (Nat.le_refl _)) (Nat.le_refl _))
                      obtain⟨e0,e1⟩:=cells2' (blk_set2' HC1.out.q (.int .i64 ln') (.int .i64 co'))
                      clear p0 p1 q0c q1c qf0 qf1 l3 l4
                      generalize ((W1.setCell ⟨w.heap.size,0,none⟩ (.int .i64 ln')).setCell ⟨w.heap.size,1,none⟩ (.int .i64 co'))=W9 at *
                      have g0:W9.drew.cell? ⟨w.heap.size,0,none⟩=some (.int .i64 ln'):=e0
                      have g1:W9.drew.cell? ⟨w.heap.size,1,none⟩=some (.int .i64 co'):=e1
                      refine bodyPost_ret (v:=.tuple #[.slice none 0 0,.agg #[.int .i64 ln',.int .i64 co'],.int .i64 20]) (by simp[results,Tryz.results50,go_sem,g0,g1]) rfl ?_
                      rw[HRR2.out]
                      exact⟨rfl,hbw⟩
                  . have HZZ:=Lib.hid hzz
                    rcases (show ¬ 1<n\/1<n/\(atB s j).toNat≠48 by omega) with h1|⟨h1,h2⟩
                    . have q2:¬ (1:Int)<(n:Int):=by omega
                      clear hzz
                      have hRR:R=(lexI s k).pre (ts++[⟨3,(s.extract j k).data.toList,ln',co'⟩]):=by
                        rw[HRES.out,HEQ.out,((tok_num hjl HMC.out).trans ((if_neg (by rw[HSP.out];exact hbig)).trans (if_neg (by rw[HSP.out];exact HZZ.out)))),HSP.out,←HPP.out,←LexR.pre_more,←HKN.out,cut_of]
                      have HRR2:=Lib.hid hRR
                      clear hRR
                      have z1:(j:Int)<=(k:Int):=by omega
                      have z2:(k:Int)<=(s.size:Int):=by omega
                      obtain⟨p0,p1⟩:=cells2' HKP.out
                      have l3:wr.heap.size<W1.heap.size:=lt_size p0
                      have HNB:=Lib.hid (show (Value.slice A5 ts.length c5).ownBlock≠some wr.heap.size by
                        intro e
                        have:=(HRC.out.own.lt _ e).2
                        omega)
                      have hown:=HC1.out.own
                      have hbs:=HC1.out.lo
                      go_wp2_with fail
                      go_region_held3 (fun w'=>w'.cell? ⟨wr.heap.size,0,none⟩=some (.int .i64 ln')/\w'.cell? ⟨wr.heap.size,1,none⟩=some (.int .i64 co'))
                        (first
                          |go_keep
                          | (go_split_ands
                             refine⟨?_,?_⟩
                             . (rw[hgrow.cell_far _ (by simp;omega) (Ne.symm HNB.out)];assumption)
                             . (rw[hgrow.cell_far _ (by simp;omega) (Ne.symm HNB.out)];assumption)))
                        ((refine step_append_lies _ (by rfl) _ _ _ (by rfl) (w.heap.size+1) 169 i0 (.agg #[.int .i64 0,.string ⟨#[]⟩,.int .i64 0,.int .i64 0]) 4 40 Tryz.underlying100 hi0 hz0 hz1 hz2 rfl (by omega) (.slice A5 ts.length c5) ts.length (tksCells ts) (by rfl) ((hown.alloc _).drew)
                            ⟨W1.heap.size,0,none⟩ 1 1 [.int .i64 3,.string (s.extract j k),.int .i64 ln',.int .i64 co'] (by rfl) (by rfl) (World.news_of_block (cs:=#[.int .i64 3,.string (s.extract j k),.int .i64 ln',.int .i64 co']) (t:=169) (fr:=(0,0)) (heap_alloc_new W1 _)) (by simp[Value.oneCell'])
                            (by omega) (by unfold maxLen;omega) (by omega) (by simp;omega) (W1.heap.size+1) (by simp) ?_;intro gg cap w1 hown1 hgrow hat hlt))
                      have hrc7:=(HC1.out.call (below_drew (below_one W1 _))).app ⟨3,(s.extract j k).data.toList,ln',co'⟩ hown1 hgrow
                      have HRC7:=Lib.hid hrc7
                      clear hrc7 hown1 hgrow
                      go_wp2_with fail
                      refine⟨⟨k,j,ln',co',ts++[⟨3,(s.extract j k).data.toList,ln',co'⟩],by omega,by omega,rfl,rfl,rfl,rfl,HPP.out,hln',hco',by simp;omega,HRR2.out,HRC7.out⟩,by simp[intOf];omega⟩
                    . have q2:(1:Int)<(n:Int):=by omega
                      have q3:((s[j].toNat:Int) == 48)=false:=by rw[HVJ.out,beq_eq_false_iff_ne];omega
                      clear hzz
                      have hRR:R=(lexI s k).pre (ts++[⟨3,(s.extract j k).data.toList,ln',co'⟩]):=by
                        rw[HRES.out,HEQ.out,((tok_num hjl HMC.out).trans ((if_neg (by rw[HSP.out];exact hbig)).trans (if_neg (by rw[HSP.out];exact HZZ.out)))),HSP.out,←HPP.out,←LexR.pre_more,←HKN.out,cut_of]
                      have HRR2:=Lib.hid hRR
                      clear hRR
                      have z1:(j:Int)<=(k:Int):=by omega
                      have z2:(k:Int)<=(s.size:Int):=by omega
                      obtain⟨p0,p1⟩:=cells2' HKP.out
                      have l3:wr.heap.size<W1.heap.size:=lt_size p0
                      have HNB:=Lib.hid (show (Value.slice A5 ts.length c5).ownBlock≠some wr.heap.size by
                        intro e
                        have:=(HRC.out.own.lt _ e).2
                        omega)
                      have hown:=HC1.out.own
                      have hbs:=HC1.out.lo
                      go_wp2_with fail
                      go_region_held3 (fun w'=>w'.cell? ⟨wr.heap.size,0,none⟩=some (.int .i64 ln')/\w'.cell? ⟨wr.heap.size,1,none⟩=some (.int .i64 co'))
                        (first
                          |go_keep
                          | (go_split_ands
                             refine⟨?_,?_⟩
                             . (rw[hgrow.cell_far _ (by simp;omega) (Ne.symm HNB.out)];assumption)
                             . (rw[hgrow.cell_far _ (by simp;omega) (Ne.symm HNB.out)];assumption)))
                        ((refine step_append_lies _ (by rfl) _ _ _ (by rfl) (w.heap.size+1) 169 i0 (.agg #[.int .i64 0,.string ⟨#[]⟩,.int .i64 0,.int .i64 0]) 4 40 Tryz.underlying100 hi0 hz0 hz1 hz2 rfl (by omega) (.slice A5 ts.length c5) ts.length (tksCells ts) (by rfl) ((hown.alloc _).drew)
                            ⟨W1.heap.size,0,none⟩ 1 1 [.int .i64 3,.string (s.extract j k),.int .i64 ln',.int .i64 co'] (by rfl) (by rfl) (World.news_of_block (cs:=#[.int .i64 3,.string (s.extract j k),.int .i64 ln',.int .i64 co']) (t:=169) (fr:=(0,0)) (heap_alloc_new W1 _)) (by simp[Value.oneCell'])
                            (by omega) (by unfold maxLen;omega) (by omega) (by simp;omega) (W1.heap.size+1) (by simp) ?_;intro gg cap w1 hown1 hgrow hat hlt))
                      have hrc7:=(HC1.out.call (below_drew (below_one W1 _))).app ⟨3,(s.extract j k).data.toList,ln',co'⟩ hown1 hgrow
                      have HRC7:=Lib.hid hrc7
                      clear hrc7 hown1 hgrow
                      go_wp2_with fail
                      refine⟨⟨k,j,ln',co',ts++[⟨3,(s.extract j k).data.toList,ln',co'⟩],by omega,by omega,rfl,rfl,rfl,rfl,HPP.out,hln',hco',by simp;omega,HRR2.out,HRC7.out⟩,by simp[intOf];omega⟩
          . as_aux_lemma=>
              obtain⟨k,hk⟩:∃ k,j+1=k:=⟨_,rfl⟩
              have HKN:=Lib.hid hk
              have hkj:(j:Int)+1=(k:Int):=by omega
              clear hk
              go_wp2_with fail
              have hRR:R=(lexI s k).pre (ts++[⟨4,(s.extract j k).data.toList,ln',co'⟩]):=by
                rw[HRES.out,HEQ.out,tok_big hjl HMC.out,←HPP.out,←LexR.pre_more,←HKN.out,cut_of]
              have HRR2:=Lib.hid hRR
              clear hRR
              have z1:(j:Int)<=(k:Int):=by omega
              have z2:(k:Int)<=(s.size:Int):=by omega
              obtain⟨p0,p1⟩:=cells2' HKP.out
              have l3:wr.heap.size<W1.heap.size:=lt_size p0
              have HNB:=Lib.hid (show (Value.slice A5 ts.length c5).ownBlock≠some wr.heap.size by
                intro e
                have:=(HRC.out.own.lt _ e).2
                omega)
              have hown:=HC1.out.own
              have hbs:=HC1.out.lo
              go_wp2_with fail
              go_region_held3 (fun w'=>w'.cell? ⟨wr.heap.size,0,none⟩=some (.int .i64 ln')/\w'.cell? ⟨wr.heap.size,1,none⟩=some (.int .i64 co'))
                (first
                  |go_keep
                  | (go_split_ands
                     refine⟨?_,?_⟩
                     . (rw[hgrow.cell_far _ (by simp;omega) (Ne.symm HNB.out)];assumption)
                     . (rw[hgrow.cell_far _ (by simp;omega) (Ne.symm HNB.out)];assumption)))
                ((refine step_append_lies _ (by rfl) _ _ _ (by rfl) (w.heap.size+1) 169 i0 (.agg #[.int .i64 0,.string ⟨#[]⟩,.int .i64 0,.int .i64 0]) 4 40 Tryz.underlying100 hi0 hz0 hz1 hz2 rfl (by omega) (.slice A5 ts.length c5) ts.length (tksCells ts) (by rfl) ((hown.alloc _).drew)
                    ⟨W1.heap.size,0,none⟩ 1 1 [.int .i64 4,.string (s.extract j k),.int .i64 ln',.int .i64 co'] (by rfl) (by rfl) (World.news_of_block (cs:=#[.int .i64 4,.string (s.extract j k),.int .i64 ln',.int .i64 co']) (t:=169) (fr:=(0,0)) (heap_alloc_new W1 _)) (by simp[Value.oneCell'])
                    (by omega) (by unfold maxLen;omega) (by omega) (by simp;omega) (W1.heap.size+1) (by simp) ?_;intro gg cap w1 hown1 hgrow hat hlt))
              have hrc7:=(HC1.out.call (below_drew (below_one W1 _))).app ⟨4,(s.extract j k).data.toList,ln',co'⟩ hown1 hgrow
              have HRC7:=Lib.hid hrc7
              clear hrc7 hown1 hgrow
              go_wp2_with fail
              refine⟨⟨k,j,ln',co',ts++[⟨4,(s.extract j k).data.toList,ln',co'⟩],by omega,by omega,rfl,rfl,rfl,rfl,HPP.out,hln',hco',by simp;omega,HRR2.out,HRC7.out⟩,by simp[intOf];omega⟩
          . as_aux_lemma=>
              go_upto_region 41 with (fail)
              go_cut [6,158] from 19 to 176 (fun p q wx=>∃ W2,p=.int .i64 ((j:Int)+1)/\q=.bool (decide (j+1<s.size)&&twoB (atB s j) (atB s (j+1)))/\Below W1.heap.size W1 W2/\W2=wx)
              case first=>
                obtain⟨k,hk⟩:∃ k,j+1=k:=⟨_,rfl⟩
                have HK0:=Lib.hid hk
                have hkj:(j:Int)+1=(k:Int):=by omega
                rw[hkj]
                clear hk hkj
                by_cases he:k<s.size
                . have x1:(k:Int)<(s.size:Int):=by omega
                  have x2:decide (k<s.size)=true:=by simpa using he
                  have x3:(0:Int)<=(k:Int):=by omega
                  have HVK:=Lib.hid (HV.out k he)
                  have HBQ:=Lib.hid (show (decide (k<s.size)&&twoB (atB s j) (atB s k))=twoB (atB s j) (atB s k) by rw[x2,Bool.true_and])
                  refine wp_region_jump (L:=#[false,false,false,false,false,false,false,false,false,false,false,false,true]) 12 (by kernel_rfl) (by kernel_rfl) (by kernel_rfl) ?_
                  have hF0:∀ k,Lt W1.drew.heap.size k->k<W1.drew.heap.size:=fun _ h=>h
                  refine wpJ_takeL (i:=0) (v:=?_) rfl (by kernel_rfl) (by kernel_rfl) (by kernel_rfl) (fun _ _ _ h=>h) hF0 (Or.inl ⟨by rfl,?_⟩) ?_
                  rotate_left
                  focus
                    intro W' hj
                    clear hj
                    go_simp
                    try with_reducible rfl
                  simp only[Act.put,List.setIfInBounds_toArray,List.set_cons_zero,List.set_cons_succ]
                  refine wpJ_takeL (i:=1) (v:=?_) rfl (by kernel_rfl) (by kernel_rfl) (by kernel_rfl) (fun _ _ _ h=>h) hF0 (Or.inl ⟨by rfl,?_⟩) ?_
                  rotate_left
                  focus
                    intro W' hj
                    clear hj
                    go_simp
                    try with_reducible rfl
                  simp only[Act.put,List.setIfInBounds_toArray,List.set_cons_zero,List.set_cons_succ]
                  refine wpJ_takeL (i:=2) (v:=?_) rfl (by kernel_rfl) (by kernel_rfl) (by kernel_rfl) (fun _ _ _ h=>h) hF0 (Or.inl ⟨by rfl,?_⟩) ?_
                  rotate_left
                  focus
                    intro W' hj
                    clear hj
                    go_simp
                    try with_reducible rfl
                  simp only[Act.put,List.setIfInBounds_toArray,List.set_cons_zero,List.set_cons_succ]
                  refine wpJ_takeL (i:=3) (v:=?_) rfl (by kernel_rfl) (by kernel_rfl) (by kernel_rfl) (fun _ _ _ h=>h) hF0 (Or.inl ⟨by rfl,?_⟩) ?_
                  rotate_left
                  focus
                    intro W' hj
                    clear hj
                    go_simp
                    try with_reducible rfl
                  simp only[Act.put,List.setIfInBounds_toArray,List.set_cons_zero,List.set_cons_succ]
                  refine wpJ_takeL (i:=4) (v:=?_) rfl (by kernel_rfl) (by kernel_rfl) (by kernel_rfl) (fun _ _ _ h=>h) hF0 (Or.inl ⟨by rfl,?_⟩) ?_
                  rotate_left
                  focus
                    intro W' hj
                    clear hj
                    go_simp
                    try with_reducible rfl
                  simp only[Act.put,List.setIfInBounds_toArray,List.set_cons_zero,List.set_cons_succ]
                  refine wpJ_takeL (i:=5) (v:=?_) rfl (by kernel_rfl) (by kernel_rfl) (by kernel_rfl) (fun _ _ _ h=>h) hF0 (Or.inl ⟨by rfl,?_⟩) ?_
                  rotate_left
                  focus
                    intro W' hj
                    clear hj
                    go_simp
                    try with_reducible rfl
                  simp only[Act.put,List.setIfInBounds_toArray,List.set_cons_zero,List.set_cons_succ]
                  refine wpJ_takeL (i:=6) (v:=?_) rfl (by kernel_rfl) (by kernel_rfl) (by kernel_rfl) (fun _ _ _ h=>h) hF0 (Or.inl ⟨by rfl,?_⟩) ?_
                  rotate_left
                  focus
                    intro W' hj
                    clear hj
                    go_simp
                    try with_reducible rfl
                  simp only[Act.put,List.setIfInBounds_toArray,List.set_cons_zero,List.set_cons_succ]
                  refine wpJ_takeL (i:=7) (v:=?_) rfl (by kernel_rfl) (by kernel_rfl) (by kernel_rfl) (fun _ _ _ h=>h) hF0 (Or.inl ⟨by rfl,?_⟩) ?_
                  rotate_left
                  focus
                    intro W' hj
                    clear hj
                    go_simp
                    try with_reducible rfl
                  simp only[Act.put,List.setIfInBounds_toArray,List.set_cons_zero,List.set_cons_succ]
                  refine wpJ_takeL (i:=8) (v:=?_) rfl (by kernel_rfl) (by kernel_rfl) (by kernel_rfl) (fun _ _ _ h=>h) hF0 (Or.inl ⟨by rfl,?_⟩) ?_
                  rotate_left
                  focus
                    intro W' hj
                    clear hj
                    go_simp
                    try with_reducible rfl
                  simp only[Act.put,List.setIfInBounds_toArray,List.set_cons_zero,List.set_cons_succ]
                  refine wpJ_takeL (i:=9) (v:=?_) rfl (by kernel_rfl) (by kernel_rfl) (by kernel_rfl) (fun _ _ _ h=>h) hF0 (Or.inl ⟨by rfl,?_⟩) ?_
                  rotate_left
                  focus
                    intro W' hj
                    clear hj
                    go_simp
                    try with_reducible rfl
                  simp only[Act.put,List.setIfInBounds_toArray,List.set_cons_zero,List.set_cons_succ]
                  refine wpJ_takeL (i:=10) (v:=?_) rfl (by kernel_rfl) (by kernel_rfl) (by kernel_rfl) (fun _ _ _ h=>h) hF0 (Or.inl ⟨by rfl,?_⟩) ?_
                  rotate_left
                  focus
                    intro W' hj
                    clear hj
                    go_simp
                    try with_reducible rfl
                  simp only[Act.put,List.setIfInBounds_toArray,List.set_cons_zero,List.set_cons_succ]
                  refine wpJ_callL (i:=11) (by kernel_rfl) rfl fun v11 j11 K11 k11=>?_
                  go_wp2_with fail
                  refine(rtwo_any (atB s j) (atB s k) _ _ v11 (by rw[HVJ.out]) (by rw[HVK.out])).mono ?_
                  rintro e11 w11 ⟨rfl,b11⟩
                  go_wp2_with fail
                  refine k11.out _ _ b11 ?_
                  clear k11
                  have hF12:=grow_F (j11.grow hF0) b11.size
                  refine wpJ_end (by kernel_rfl) (fun wz jz=>?_) _
                  have hlow:=Jmp.low (j11.back hF0 b11 jz)
                  have HZ:=Lib.hid hlow
                  clear hlow jz
                  refine⟨by kernel_rfl,?_⟩
                  try simp only[Act.put,List.setIfInBounds_toArray,List.set_cons_zero,List.set_cons_succ]
                  simp only[List.drop_succ_cons,List.drop_zero]
                  go_wp2_with fail
                  go_meet
                  exact⟨wz,by have:=HK0.out;congr 1;omega,by rw[HK0.out,HBQ.out],HZ.out,rfl⟩
                . have x1:¬ (k:Int)<(s.size:Int):=by omega
                  have x2:decide (k<s.size)=false:=by simpa using he
                  have HBQ:=Lib.hid (show (decide (k<s.size)&&twoB (atB s j) (atB s k))=false by rw[x2,Bool.false_and])
                  refine wp_region_jump (L:=#[false,false,false,false,false,false,false,false,false,false,false,false,true]) 12 (by kernel_rfl) (by kernel_rfl) (by kernel_rfl) ?_
                  have hF0:∀ k,Lt W1.drew.heap.size k->k<W1.drew.heap.size:=fun _ h=>h
                  refine wpJ_takeL (i:=0) (v:=?_) rfl (by kernel_rfl) (by kernel_rfl) (by kernel_rfl) (fun _ _ _ h=>h) hF0 (Or.inl ⟨by rfl,?_⟩) ?_
                  rotate_left
                  focus
                    intro W' hj
                    clear hj
                    go_simp
                    try with_reducible rfl
                  simp only[Act.put,List.setIfInBounds_toArray,List.set_cons_zero,List.set_cons_succ]
                  refine wpJ_takeL (i:=1) (v:=?_) rfl (by kernel_rfl) (by kernel_rfl) (by kernel_rfl) (fun _ _ _ h=>h) hF0 (Or.inl ⟨by rfl,?_⟩) ?_
                  rotate_left
                  focus
                    intro W' hj
                    clear hj
                    go_simp
                    try with_reducible rfl
                  simp only[Act.put,List.setIfInBounds_toArray,List.set_cons_zero,List.set_cons_succ]
                  refine wpJ_takeL (i:=2) (v:=?_) rfl (by kernel_rfl) (by kernel_rfl) (by kernel_rfl) (fun _ _ _ h=>h) hF0 (Or.inl ⟨by rfl,?_⟩) ?_
                  rotate_left
                  focus
                    intro W' hj
                    clear hj
                    go_simp
                    try with_reducible rfl
                  simp only[Act.put,List.setIfInBounds_toArray,List.set_cons_zero,List.set_cons_succ]
                  refine wpJ_takeL (i:=3) (v:=?_) rfl (by kernel_rfl) (by kernel_rfl) (by kernel_rfl) (fun _ _ _ h=>h) hF0 (Or.inl ⟨by rfl,?_⟩) ?_
                  rotate_left
                  focus
                    intro W' hj
                    clear hj
                    go_simp
                    try with_reducible rfl
                  simp only[Act.put,List.setIfInBounds_toArray,List.set_cons_zero,List.set_cons_succ]
                  refine wpJ_takeL (i:=4) (v:=?_) rfl (by kernel_rfl) (by kernel_rfl) (by kernel_rfl) (fun _ _ _ h=>h) hF0 (Or.inl ⟨by rfl,?_⟩) ?_
                  rotate_left
                  focus
                    intro W' hj
                    clear hj
                    go_simp
                    try with_reducible rfl
                  simp only[Act.put,List.setIfInBounds_toArray,List.set_cons_zero,List.set_cons_succ]
                  refine wpJ_takeL (i:=5) (v:=undef) rfl (by kernel_rfl) (by kernel_rfl) (by kernel_rfl) (fun _ _ _ h=>h) hF0 (Or.inr ⟨by rfl,rfl⟩) ?_
                  simp only[Act.put,List.setIfInBounds_toArray,List.set_cons_zero,List.set_cons_succ]
                  refine wpJ_takeL (i:=6) (v:=undef) rfl (by kernel_rfl) (by kernel_rfl) (by kernel_rfl) (fun _ _ _ h=>h) hF0 (Or.inr ⟨by rfl,rfl⟩) ?_
                  simp only[Act.put,List.setIfInBounds_toArray,List.set_cons_zero,List.set_cons_succ]
                  refine wpJ_takeL (i:=7) (v:=undef) rfl (by kernel_rfl) (by kernel_rfl) (by kernel_rfl) (fun _ _ _ h=>h) hF0 (Or.inr ⟨by rfl,rfl⟩) ?_
                  simp only[Act.put,List.setIfInBounds_toArray,List.set_cons_zero,List.set_cons_succ]
                  refine wpJ_takeL (i:=8) (v:=undef) rfl (by kernel_rfl) (by kernel_rfl) (by kernel_rfl) (fun _ _ _ h=>h) hF0 (Or.inr ⟨by rfl,rfl⟩) ?_
                  simp only[Act.put,List.setIfInBounds_toArray,List.set_cons_zero,List.set_cons_succ]
                  refine wpJ_takeL (i:=9) (v:=undef) rfl (by kernel_rfl) (by kernel_rfl) (by kernel_rfl) (fun _ _ _ h=>h) hF0 (Or.inr ⟨by rfl,rfl⟩) ?_
                  simp only[Act.put,List.setIfInBounds_toArray,List.set_cons_zero,List.set_cons_succ]
                  refine wpJ_takeL (i:=10) (v:=undef) rfl (by kernel_rfl) (by kernel_rfl) (by kernel_rfl) (fun _ _ _ h=>h) hF0 (Or.inr ⟨by rfl,rfl⟩) ?_
                  simp only[Act.put,List.setIfInBounds_toArray,List.set_cons_zero,List.set_cons_succ]
                  refine wpJ_takeL (i:=11) (v:=undef) rfl (by kernel_rfl) (by kernel_rfl) (by kernel_rfl) (fun _ _ _ h=>h) hF0 (Or.inr ⟨by rfl,rfl⟩) ?_
                  simp only[Act.put,List.setIfInBounds_toArray,List.set_cons_zero,List.set_cons_succ]
                  refine wpJ_end (by kernel_rfl) (fun wz jz=>?_) _
                  have hlow:=Jmp.low jz
                  have HZ:=Lib.hid hlow
                  clear hlow jz
                  refine⟨by kernel_rfl,?_⟩
                  try simp only[Act.put,List.setIfInBounds_toArray,List.set_cons_zero,List.set_cons_succ]
                  simp only[List.drop_succ_cons,List.drop_zero]
                  go_wp2_with fail
                  go_meet
                  exact⟨wz,by have:=HK0.out;congr 1;omega,by rw[HK0.out,HBQ.out],HZ.out,rfl⟩
              case rest=>
                obtain⟨W2,rfl,rfl,hbw,rfl⟩:=hcut
                have HKP2:=Lib.hid (HKP.out.call hbw)
                have HC12:=Lib.hid (HC1.out.call hbw)
                clear hbw HKP HC1 HS1
                have htk:=tok_sign hjl HMC.out
                have hle:j+1<s.size\/(decide (j+1<s.size)&&twoB (atB s j) (atB s (j+1)))=false:=by
                  by_cases h:j+1<s.size
                  . exact .inl h
                  . exact .inr (by rw[decide_eq_false h,Bool.false_and])
                obtain⟨b,hb⟩:∃ b,(decide (j+1<s.size)&&twoB (atB s j) (atB s (j+1)))=b:=⟨_,rfl⟩
                rw[hb]at htk hle ⊢
                clear hb
                rcases b with _|_
                . rw[if_neg (by simp)]at htk
                  have HTK:=Lib.hid htk
                  clear htk hle
                  obtain⟨k,hk⟩:∃ k,j+1=k:=⟨_,rfl⟩
                  have hle:k<=s.size:=by omega
                  have HKN:=Lib.hid hk
                  have hkj:(j:Int)+1=(k:Int):=by omega
                  clear hk
                  go_wp2_with fail
                  have hRR:R=(lexI s k).pre (ts++[⟨2,(s.extract j k).data.toList,ln',co'⟩]):=by
                    rw[HRES.out,HEQ.out,HTK.out,←HPP.out,←LexR.pre_more,←HKN.out,cut_of]
                  have HRR2:=Lib.hid hRR
                  clear hRR
                  have z1:(j:Int)<=(k:Int):=by omega
                  have z2:(k:Int)<=(s.size:Int):=by omega
                  obtain⟨p0,p1⟩:=cells2' HKP2.out
                  have l3:wr.heap.size<W2.heap.size:=lt_size p0
                  have HNB:=Lib.hid (show (Value.slice A5 ts.length c5).ownBlock≠some wr.heap.size by
                    intro e
                    have:=(HRC.out.own.lt _ e).2
                    omega)
                  have hown:=HC12.out.own
                  have hbs:=HC12.out.lo
                  go_wp2_with fail
                  go_region_held3 (fun w'=>w'.cell? ⟨wr.heap.size,0,none⟩=some (.int .i64 ln')/\w'.cell? ⟨wr.heap.size,1,none⟩=some (.int .i64 co'))
                    (first
                      |go_keep
                      | (go_split_ands
                         refine⟨?_,?_⟩
                         . (rw[hgrow.cell_far _ (by simp;omega) (Ne.symm HNB.out)];assumption)
                         . (rw[hgrow.cell_far _ (by simp;omega) (Ne.symm HNB.out)];assumption)))
                    ((refine step_append_lies _ (by rfl) _ _ _ (by rfl) (w.heap.size+1) 169 i0 (.agg #[.int .i64 0,.string ⟨#[]⟩,.int .i64 0,.int .i64 0]) 4 40 Tryz.underlying100 hi0 hz0 hz1 hz2 rfl (by omega) (.slice A5 ts.length c5) ts.length (tksCells ts) (by rfl) ((hown.alloc _).drew)
                        ⟨W2.heap.size,0,none⟩ 1 1 [.int .i64 2,.string (s.extract j k),.int .i64 ln',.int .i64 co'] (by rfl) (by rfl) (World.news_of_block (cs:=#[.int .i64 2,.string (s.extract j k),.int .i64 ln',.int .i64 co']) (t:=169) (fr:=(0,0)) (heap_alloc_new W2 _)) (by simp[Value.oneCell'])
                        (by omega) (by unfold maxLen;omega) (by omega) (by simp;omega) (W2.heap.size+1) (by simp) ?_;intro gg cap w1 hown1 hgrow hat hlt))
                  have hrc7:=(HC12.out.call (below_drew (below_one W2 _))).app ⟨2,(s.extract j k).data.toList,ln',co'⟩ hown1 hgrow
                  have HRC7:=Lib.hid hrc7
                  clear hrc7 hown1 hgrow
                  go_wp2_with fail
                  refine⟨⟨k,j,ln',co',ts++[⟨2,(s.extract j k).data.toList,ln',co'⟩],by omega,by omega,rfl,rfl,rfl,rfl,HPP.out,hln',hco',by simp;omega,HRR2.out,HRC7.out⟩,by simp[intOf];omega⟩
                . rw[if_pos rfl]at htk
                  have HTK:=Lib.hid htk
                  have hle:j+1<s.size:=hle.resolve_right (by simp)
                  clear htk
                  obtain⟨k,hk⟩:∃ k,j+2=k:=⟨_,rfl⟩
                  have hlk:k<=s.size:=by omega
                  have HKN:=Lib.hid hk
                  have hkj:(j:Int)+1+1=(k:Int):=by omega
                  clear hk
                  go_wp2_with fail
                  have hRR:R=(lexI s k).pre (ts++[⟨2,(s.extract j k).data.toList,ln',co'⟩]):=by
                    rw[HRES.out,HEQ.out,HTK.out,←HPP.out,←LexR.pre_more,←HKN.out,cut_of]
                  have HRR2:=Lib.hid hRR
                  clear hRR
                  have z1:(j:Int)<=(k:Int):=by omega
                  have z2:(k:Int)<=(s.size:Int):=by omega
                  obtain⟨p0,p1⟩:=cells2' HKP2.out
                  have l3:wr.heap.size<W2.heap.size:=lt_size p0
                  have HNB:=Lib.hid (show (Value.slice A5 ts.length c5).ownBlock≠some wr.heap.size by
                    intro e
                    have:=(HRC.out.own.lt _ e).2
                    omega)
                  have hown:=HC12.out.own
                  have hbs:=HC12.out.lo
                  go_wp2_with fail
                  go_region_held3 (fun w'=>w'.cell? ⟨wr.heap.size,0,none⟩=some (.int .i64 ln')/\w'.cell? ⟨wr.heap.size,1,none⟩=some (.int .i64 co'))
                    (first
                      |go_keep
                      | (go_split_ands
                         refine⟨?_,?_⟩
                         . (rw[hgrow.cell_far _ (by simp;omega) (Ne.symm HNB.out)];assumption)
                         . (rw[hgrow.cell_far _ (by simp;omega) (Ne.symm HNB.out)];assumption)))
                    ((refine step_append_lies _ (by rfl) _ _ _ (by rfl) (w.heap.size+1) 169 i0 (.agg #[.int .i64 0,.string ⟨#[]⟩,.int .i64 0,.int .i64 0]) 4 40 Tryz.underlying100 hi0 hz0 hz1 hz2 rfl (by omega) (.slice A5 ts.length c5) ts.length (tksCells ts) (by rfl) ((hown.alloc _).drew)
                        ⟨W2.heap.size,0,none⟩ 1 1 [.int .i64 2,.string (s.extract j k),.int .i64 ln',.int .i64 co'] (by rfl) (by rfl) (World.news_of_block (cs:=#[.int .i64 2,.string (s.extract j k),.int .i64 ln',.int .i64 co']) (t:=169) (fr:=(0,0)) (heap_alloc_new W2 _)) (by simp[Value.oneCell'])
                        (by omega) (by unfold maxLen;omega) (by omega) (by simp;omega) (W2.heap.size+1) (by simp) ?_;intro gg cap w1 hown1 hgrow hat hlt))
                  have hrc7:=(HC12.out.call (below_drew (below_one W2 _))).app ⟨2,(s.extract j k).data.toList,ln',co'⟩ hown1 hgrow
                  have HRC7:=Lib.hid hrc7
                  clear hrc7 hown1 hgrow
                  go_wp2_with fail
                  refine⟨⟨k,j,ln',co',ts++[⟨2,(s.extract j k).data.toList,ln',co'⟩],by omega,by omega,rfl,rfl,rfl,rfl,HPP.out,hln',hco',by simp;omega,HRR2.out,HRC7.out⟩,by simp[intOf];omega⟩
end Go.Proofs.YtlmhajfbpplpoaaGreat
