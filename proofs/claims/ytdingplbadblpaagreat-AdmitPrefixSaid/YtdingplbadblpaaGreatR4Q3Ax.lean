import Derived.WalkKit
import Derived.Deep.Quiet
import Derived.KernelRfl
import Derived.Laws.BytesString
import Derived.Laws.Shifts
import Derived.Laws.IdiomStrings
import Derived.OpenShut
import Derived.Test.YtdingplbadblpaaGreatProg
import Derived.Shelf.SortG.Plain
import Derived.Shelf.SortG.SortNone
import Derived.Shelf.SlicesG.CompactI
import Derived.Test.YtdingplbadblpaaGreatR4Q3Lf
namespace Go.Proofs.YtdingplbadblpaaGreat
open Go Go.E Go.Proofs.Tryz
set_option linter.all false
set_option maxRecDepth 100000
set_option maxHeartbeats 2000000
variable {W w:World} {H:Chunk} {F:List Chunk}
theorem adm_cut {c:Cfg} {l:Lod} {y:List Int} {ts:List TaskV} {m e:Int} (h:AdmR c l y ts m e) (hp:admP c l) (hj:l.jobs<c.jobs) (hd:∀dj dc,DecR y dj dc->dc=4):e=4:=by
  rcases h with ⟨_,h⟩|⟨_,_,h⟩|⟨_,_,dj,dc,h1,h2,_⟩
  · exact absurd hp h
  · omega
  · rw [h2,hd dj dc h1];rfl
theorem any_no {α:Type} {p:α->Bool} {l:List α} (h:∀x∈l,p x=false):l.any p=false:=by
  rw [List.any_eq_false];intro x hx;rw [h x hx];decide
theorem scr_le {L:Lay} (g:LayG L):∀z∈L.all,z.scratch<=200000:=by
 intro z hz
 obtain ⟨n,hn,hz⟩:=List.mem_flatMap.1 hz
 have hb:=g.byt hn
 have hk:∀r:Rct,inP r->bytV (L.st n) (shpAt L.sh (L.st n).a).h r<=200000:=fun r hr=>by
  have h:=cells_bd (h:=(shpAt L.sh (L.st n).a).h) hb hr
  unfold bytV alnV;omega
 unfold Lay.tasks at hz
 rcases List.mem_append.1 hz with hz|hz
 ·obtain ⟨i,hi,rfl⟩:=List.mem_map.1 hz
  have hi:=mem_upto.1 hi
  have hgr:=g.grid hn
  exact hk _ (tile_in (g.fine hn) hi.1 (by unfold Lay.nx Lay.ny at hi hgr;omega)).1
 ·split at hz
  ·rename_i h4
   rw [List.mem_singleton.1 hz]
   refine hk _ ?_
   have hb0:=hb
   unfold bytOK at hb0
   unfold inP;dsimp only;omega
  ·simp at hz
theorem cel_le {L:Lay} (g:LayG L) (ht:L.total<=516):L.cells<=200000:=by
 have h1:=cellsum_le g L.sh.length (Nat.le_refl _)
 rw [List.take_of_length_le (Nat.le_refl _)] at h1
 have hl:=g.len;have hn:=g.ni
 have h2:∀l:List Int,(∀x∈l,x∈L.od)->(l.map (histC L)).sum<=128*(l.map L.cnt).sum:=by
  intro l
  induction l with
  |nil=>intro _;simp
  |cons x l ih=>
   intro h
   have ih:=ih (fun y hy=>h y (by simp [hy]))
   have hx:=h x (by simp)
   have hc:=g.cntb hx
   have hb:=g.byt hx
   unfold bytOK at hb
   have hk:histC L x<=128*L.cnt x:=by
    unfold histC
    split
    ·have hm:(L.st x).bins*(L.cnt x-1)<=128*(L.cnt x-1):=Int.mul_le_mul_of_nonneg_right om om
     omega
    ·omega
   rw [List.map_cons,List.map_cons,List.sum_cons,List.sum_cons];omega
 have h3:=h2 L.od (fun _ h=>h)
 have e:L.cells=(L.sh.map fun m=>m.w*m.h).sum+(L.od.map (histC L)).sum:=rfl
 have e2:L.total=(L.od.map L.cnt).sum:=rfl
 omega
theorem adm_made {c:Cfg} {l:Lod} {j:JobV} (hm:MadeL j c.tileW c.tileH) (hs:(shpV j).2.2=0) (h1:516<=c.tasks-l.tasks) (h2:200000<=c.arena) (h3:200000<=c.cells-l.cells):admD c l j 0=0:=by
 have hv:=hm.v
 have hl:((lowV j c.tileW c.tileH).length:Int)<=516:=by
  rw [hv]
  have h:=tasks_sum hm.g (layV j c.tileW c.tileH).od (fun _ h=>h)
  have ht:=hm.t
  have e:((layV j c.tileW c.tileH).all.length:Int)=(layV j c.tileW c.tileH).total:=h
  omega
 unfold admD
 rw [if_neg (by decide),if_neg (by rw [hs];decide),if_neg (by rw [hm.z];decide)]
 unfold admT
 rw [if_neg om,if_neg,if_neg]
 ·have h:=cel_le hm.g hm.t
  unfold celV;rw [if_pos hm.z];omega
 ·unfold overA
  rw [hv,any_no (fun z hz=>decide_eq_false (by have:=scr_le hm.g z hz;omega))]
  decide
theorem l26_prefix (W w:World) (H:Chunk) (F:List Chunk) (t:Option Addr) (nt kt:Nat) (xt:List Int) (cut:Int) (ht:RdT Go.E.encI 1 [H] t nt kt xt) (_hcut:-9223372036854775808<=cut/\cut<=9223372036854775807) (hS:Sat W w (H::F)):
  Calls prog 10 #[.slice t nt kt,I cut] w fun e w'=>e= .returned (.bool true)/\Sat W w' (H::F):=by
 have hlt:=ht.le
 refine callsA 82 func10 rfl<|sR<|pu1<|zS<|pu1<|cX call11 (tape_new t nt kt hS) ?_
 rintro _ _ ⟨_,rfl,e5⟩
 have pb:=ht.le
 refine pu1<|zS<|pu1<|cX call12 (tg_job (RdT.flat (ht.up 0 (by rfl))) om e5.flat1 3 om) ?_
 rintro _ _ ⟨a0,_,rfl,v2,w2,f5,g5,_,_,h5⟩
 have i5:=h5.unflat2
 obtain ⟨hgd,l0,hrn⟩:=f5
 have hns:=(v2).stages.len;have hni:=(v2).inputs.len;have hno:=(v2).outputs.len;have hjO:=g5;have hjB:=w2
 have hb:a0.inputs.n<=1000000/\a0.stages.n<=1000000/\a0.outputs.n<=1000000:=by have h1:=hgd.ni;have h2:=hgd.ns;rw [List.length_map] at h1 h2;omega
 have hns4:=hjB.2.1.1
 have hmd:MadeL a0.v 64 64:=made_low hgd hrn (fun z hz=>by obtain ⟨y,hy,rfl⟩:=List.mem_map.1 hz;exact (hjB.1.2 y hy).1.1) (fun z hz=>by obtain ⟨y,hy,rfl⟩:=List.mem_map.1 hz;have h:=hjB.2.1.2 y hy;unfold stageB at h;simp only [Stage.v,List.length_map];omega) (by show 1<=(a0.stages.l.map Stage.v).length/\(a0.stages.l.map Stage.v).length<=4;rw [List.length_map];omega) hjO.2.1 hjO.2.2 (show tileP _ _ by unfold tileP;omega)
 have hwf:wfJob a0.v:=jobS_wf (jobB_S w2) om;have hbd:=nJob_bd (jobB_S w2) om
 have hsz0:(shpV a0.v).2.2=0:=by have h:=shp_outs hgd hrn (by rw [List.length_map];omega) hjO.2.1 hjO.2.2;rw [show shpV a0.v=_ from h]
 refine sF #[.agg (encJob a0).toArray] call41 (Calls.mono (ref_encode W _ _ [] a0 (v2.of_mem (mem_flat1 1 (by rfl))) om i5.flat) ?_)
 rintro _ _ (⟨j5,s2,o2,q2,k5,rfl,c0,x2⟩|⟨j5,rfl,x2⟩)
 ·refine ⟨_,rfl,?_⟩
  have l5:=x2.unflat1;clear x2
  have hn_a_20:=c0.len;rw [enc_len] at hn_a_20;have hle_a_20:=c0.le
  refine pu5<|zS<|pu1<|sAlloc l5 zeroValue70 fun b0 _ m5=>?_
  refine sT m5 0 0 (.agg #[I 1,I 64,I 64,I 1048576,I 1,I 4096,I 1048576,I 64]) [I 1,I 64,I 64,I 1048576,I 1,I 4096,I 1048576,I 64] #[I 1,I 64,I 64,I 1048576,I 1,I 4096,I 1048576,I 64] sizeOf70 fun _ y3=>zS<|lA y3 0 0 8 (isAgg70 _) (sizeOf70 _)<|pu2<|cX call36 (p26_check (F:=[]) (⟨1,64,64,1048576,1,4096,1048576,64⟩:Cfg) (⟨0,0,0⟩:Lod) (xs:=([84,70,1]++bytesOf (nJob a0.v))) (RdT.flat (c0.rdAt 1 (by rfl))) (enc_bytes _) (od) y3.flat) ?_
  rintro _ _ ⟨y2,_,_,_,_,_,e0_36,_,_,rfl,z3,_,n5,hz0_42,o5⟩
  have p5:=o5.unflat2;have hn_az_31:=z3.len;have hl_az_31:=z3.le
  have hln:([84,70,1]++bytesOf (nJob a0.v)).length<=200000:=by rw [enc_len];omega
  have ha1:e0_36=0:=by rw [(adm_enc n5 (by unfold admP;decide) (by decide) hwf rfl om).1];exact adm_made hmd hsz0 (by decide) (by decide) (by decide)
  refine pu5<|sAlloc p5 zeroValue28 fun _ _ q5=>?_
  refine sT q5 0 0 (.agg (encJob y2).toArray) (encJob y2) (encJob y2).toArray sizeOf28 fun _ t0=>pu3<|nT<|cutA (γ:=Int) (fun e2=>[(1,I cut),(6, .slice s2 o2 q2),(8,Pt b0 0),(12,I e0_36),(16,I e2)]) (fun e2 w=>Sat W w ([(b0, .cells #[I 1,I 64,I 64,I 1048576,I 1,I 4096,I 1048576,I 64] 70 (0,0))]::k5::H::F)/\e2=4) ?_ ?_
  ·refine drawP [7,9,15,16] [(0,⟨b0,0,none⟩,I 1),(0,⟨b0,1,none⟩,I 64),(0,⟨b0,2,none⟩,I 64),(0,⟨b0,3,none⟩,I 1048576),(0,⟨b0,4,none⟩,I 1),(0,⟨b0,5,none⟩,I 4096),(0,⟨b0,6,none⟩,I 1048576),(0,⟨b0,7,none⟩,I 64)] (Plan.sts [1,2,3,4,5]<|Plan.sts [6]<|Plan.sts [0]<| .fk 7 15 (Plan.sts [8]<| .fk 9 15 (Plan.sts [10]<|Plan.sts [11]<|Plan.sts [12]<|Plan.sts [13]<|Plan.sts [14]<| .ef 15<| .ef 16<|Plan.sts [17,18,19]<| .fin) (.ef 9<|Plan.sts [10]<|Plan.sts [11]<|Plan.sts [12]<|Plan.sts [13]<|Plan.sts [14]<| .ef 16<|Plan.sts [17,18,19]<| .fin)) (.ef 7<|Plan.sts [8]<| .ef 9<|Plan.sts [10]<|Plan.sts [11]<|Plan.sts [12]<|Plan.sts [13]<|Plan.sts [14]<| .ef 16<|Plan.sts [17,18,19]<| .fin)) rfl kr ⟨cI t0 3,cI t0 3,cI t0 3,cI t0 3,cI t0 3,cI t0 3,cI t0 3,cI t0 3,trivial⟩ ?_
   have a4:=t0.drew
   refine qU [1,2,3,4,5]<|qY (I (max (o2:Int) 1)) rfl (fun w _=>Y_max2 (o2:Int) 1 rfl rfl kr kr)<|qY (.agg #[I 1,I 64,I 64,I 1048576,I 1,I 4096,I 1048576,I 64]) rfl (fun w hF=>Y_loadF rfl (isAgg70 w) (sizeOf70 w) kr rfl ⟨hF 0 _ _ rfl,hF 1 _ _ rfl,hF 2 _ _ rfl,hF 3 _ _ rfl,hF 4 _ _ rfl,hF 5 _ _ rfl,hF 6 _ _ rfl,hF 7 _ _ rfl,trivial⟩)<|qF ?_ ?_
   rotate_left
   ·refine qO rfl<|sAlloc a4 zeroValue28 fun _ _ u0=>nilO ⟨⟨cI u0 4,cI u0 4,cI u0 4,cI u0 4,cI u0 4,cI u0 4,cI u0 4,cI u0 4,trivial⟩,?_⟩
    refine qO rfl<|cX call15 (mod_ok cut (max (o2:Int) 1) om om u0) ?_
    rintro _ _ ⟨t2,rfl,_,v0⟩
    refine nilO ⟨⟨cI v0 4,cI v0 4,cI v0 4,cI v0 4,cI v0 4,cI v0 4,cI v0 4,cI v0 4,trivial⟩,?_⟩
    have r5:=c0.part (lo:=0) (hi:=(t2).toNat) om om
    refine qY (.slice (partAddr s2 q2 0 1) ((t2).toNat-0) (q2-0)) rfl (fun w _=>Y_sl (a:=s2) (len:=o2) (cap:=q2) none (some t2) 0 ((t2).toNat) runUnderlying74 sizeOf5 rfl ⟨om,om⟩ om om)<|qO rfl<|cX call36 (p26_check (F:=[]) (⟨1,64,64,1048576,1,4096,1048576,64⟩:Cfg) (⟨0,0,0⟩:Lod) (xs:=((([84,70,1]++bytesOf (nJob a0.v)).drop 0).take ((t2).toNat-0))) (RdT.flat (r5.rdAt 5 (by rfl))) (fun b hb=>(enc_bytes _) b (List.mem_of_mem_drop (List.mem_of_mem_take hb))) (od) v0.flat) ?_
    rintro _ _ ⟨z2,_,_,_,_,_,e0_118,_,_,rfl,b4,_,s5,hz0_124,u5⟩
    have v5:=u5.unflat2;have hn_az_113:=b4.len;have hl_az_113:=b4.le
    have ha2:e0_118=4:=adm_cut s5 (by unfold admP;decide) (by decide) (fun dj dc hd=>dec_cut hwf (List.take_append_drop _ _).symm (by rw [List.length_drop,enc_len];omega) hd (by rw [List.length_take];omega))
    refine nilO ⟨dA,?_⟩
    refine qU [10]<|qU [11]<|qU [12]<|qU [13]<|qU [14]<|qO rfl<|sT v5 2 0 (.agg (encJob z2).toArray) (encJob z2) (encJob z2).toArray sizeOf28 fun _ w5=>nilO ⟨dA,?_⟩
    exact qU [17,18,19]<|qN<|tN<|⟨e0_118,alA,(w5.drops [0,0,0,0,0,0,2,2]),ha2⟩
   refine qO rfl<|cX call15 (mod_ok cut (max (o2:Int) 1) om om a4) ?_
   rintro _ _ ⟨r2,rfl,_,e0⟩
   refine nilO ⟨⟨cI e0 3,cI e0 3,cI e0 3,cI e0 3,cI e0 3,cI e0 3,cI e0 3,cI e0 3,trivial⟩,?_⟩
   have c4:=c0.part (lo:=0) (hi:=(r2).toNat) om om
   refine qY (.slice (partAddr s2 q2 0 1) ((r2).toNat-0) (q2-0)) rfl (fun w _=>Y_sl (a:=s2) (len:=o2) (cap:=q2) none (some r2) 0 ((r2).toNat) runUnderlying74 sizeOf5 rfl ⟨om,om⟩ om om)<|qF ?_ ?_
   ·refine qO rfl<|cX call36 (p26_check (F:=[]) (⟨1,64,64,1048576,1,4096,1048576,64⟩:Cfg) (⟨0,0,0⟩:Lod) (xs:=((([84,70,1]++bytesOf (nJob a0.v)).drop 0).take ((r2).toNat-0))) (RdT.flat (c4.rdAt 4 (by rfl))) (fun b hb=>(enc_bytes _) b (List.mem_of_mem_drop (List.mem_of_mem_take hb))) (od) e0.flat) ?_
    rintro _ _ ⟨a3,_,_,_,_,_,e0_64,_,_,rfl,d4,_,y5,hz0_70,z5⟩
    have a6:=z5.unflat2;have hn_az_59:=d4.len;have hl_az_59:=d4.le
    have ha2:e0_64=4:=adm_cut y5 (by unfold admP;decide) (by decide) (fun dj dc hd=>dec_cut hwf (List.take_append_drop _ _).symm (by rw [List.length_drop,enc_len];omega) hd (by rw [List.length_take];omega))
    refine nilO ⟨dA,?_⟩
    refine qU [10]<|qU [11]<|qU [12]<|qU [13]<|qU [14]<|qO rfl<|sAlloc a6 zeroValue28 fun _ _ b6=>nilO ⟨dA,?_⟩
    refine qO rfl<|sT b6 0 0 (.agg (encJob a3).toArray) (encJob a3) (encJob a3).toArray sizeOf28 fun _ c6=>nilO ⟨dA,?_⟩
    exact qU [17,18,19]<|qN<|tN<|⟨e0_64,alA,(c6.drops [0,0,0,0,0,0,2,2]),ha2⟩
   refine qO rfl<|sAlloc e0 zeroValue28 fun _ _ w0=>nilO ⟨⟨cI w0 4,cI w0 4,cI w0 4,cI w0 4,cI w0 4,cI w0 4,cI w0 4,cI w0 4,trivial⟩,?_⟩
   refine qO rfl<|cX call36 (p26_check (F:=[]) (⟨1,64,64,1048576,1,4096,1048576,64⟩:Cfg) (⟨0,0,0⟩:Lod) (xs:=((([84,70,1]++bytesOf (nJob a0.v)).drop 0).take ((r2).toNat-0))) (RdT.flat (c4.rdAt 5 (by rfl))) (fun b hb=>(enc_bytes _) b (List.mem_of_mem_drop (List.mem_of_mem_take hb))) (od) w0.flat) ?_
   rintro _ _ ⟨b3,_,_,_,_,_,e0_90,_,_,rfl,e4,_,e6,hz0_96,f6⟩
   have g6:=f6.unflat2;have hn_az_85:=e4.len;have hl_az_85:=e4.le
   have ha2:e0_90=4:=adm_cut e6 (by unfold admP;decide) (by decide) (fun dj dc hd=>dec_cut hwf (List.take_append_drop _ _).symm (by rw [List.length_drop,enc_len];omega) hd (by rw [List.length_take];omega))
   refine nilO ⟨dA,?_⟩
   refine qU [10]<|qU [11]<|qU [12]<|qU [13]<|qU [14]<|qO rfl<|sT g6 2 0 (.agg (encJob b3).toArray) (encJob b3) (encJob b3).toArray sizeOf28 fun _ h6=>nilO ⟨dA,?_⟩
   exact qU [17,18,19]<|qN<|tN<|⟨e0_90,alA,(h6.drops [0,0,0,0,0,0,2,2]),ha2⟩
  rintro e2 ρ _ ⟨x0,he2⟩
  refine cutA (γ:=Int) (fun e3=>[(12,I e0_36),(16,I e2),(20,I e3)]) (fun e3 w=>Sat W w (H::F)/\e3=4) ?_ ?_
  rotate_left
  ·rintro e3 ρ _ ⟨j6,he3⟩
   refine sR<|pu3 ?_
   have k6:(e0_36:Int)=0:=by omega
   refine sFix 71 _ true (beq_iff_eq.2 k6)<|pu4 ?_
   have l6:(e2:Int)=4:=by omega
   refine sFix 75 _ true (beq_iff_eq.2 l6)<|pu4 ?_
   have m6:(e3:Int)=4:=by omega
   exact sFix 79 _ true (beq_iff_eq.2 m6)<|gY<|cR call37 (l26_sane j6.flat) fun _ n6=>pu2<|zE<|retT [.bool true]<|⟨rfl,n6⟩
  refine drawP [2,4,7,8,9,15,16] [(0,⟨b0,0,none⟩,I 1),(0,⟨b0,1,none⟩,I 64),(0,⟨b0,2,none⟩,I 64),(0,⟨b0,3,none⟩,I 1048576),(0,⟨b0,4,none⟩,I 1),(0,⟨b0,5,none⟩,I 4096),(0,⟨b0,6,none⟩,I 1048576),(0,⟨b0,7,none⟩,I 64)] (Plan.sts [1,3,5]<|Plan.sts [6]<|Plan.sts [0]<| .f3 2 7 15 (.f3 4 7 15 (.fk 7 15 (.fk 8 15 (.fk 9 15 (Plan.sts [10]<|Plan.sts [11]<|Plan.sts [12]<|Plan.sts [13]<|Plan.sts [14]<| .ef 15<| .ef 16<|Plan.sts [17,18,19]<| .fin) (.ef 9<|Plan.sts [10]<|Plan.sts [11]<|Plan.sts [12]<|Plan.sts [13]<|Plan.sts [14]<| .ef 16<|Plan.sts [17,18,19]<| .fin)) (.ef 8<| .ef 9<|Plan.sts [10]<|Plan.sts [11]<|Plan.sts [12]<|Plan.sts [13]<|Plan.sts [14]<| .ef 16<|Plan.sts [17,18,19]<| .fin)) (.ef 7<| .ef 8<| .ef 9<|Plan.sts [10]<|Plan.sts [11]<|Plan.sts [12]<|Plan.sts [13]<|Plan.sts [14]<| .ef 16<|Plan.sts [17,18,19]<| .fin)) (.fk 4 15 (.fk 8 15 (.fk 9 15 (Plan.sts [10]<|Plan.sts [11]<|Plan.sts [12]<|Plan.sts [13]<|Plan.sts [14]<| .ef 15<| .ef 16<|Plan.sts [17,18,19]<| .fin) (.ef 9<|Plan.sts [10]<|Plan.sts [11]<|Plan.sts [12]<|Plan.sts [13]<|Plan.sts [14]<| .ef 16<|Plan.sts [17,18,19]<| .fin)) (.ef 8<| .ef 9<|Plan.sts [10]<|Plan.sts [11]<|Plan.sts [12]<|Plan.sts [13]<|Plan.sts [14]<| .ef 16<|Plan.sts [17,18,19]<| .fin)) (.ef 4<| .ef 8<| .ef 9<|Plan.sts [10]<|Plan.sts [11]<|Plan.sts [12]<|Plan.sts [13]<|Plan.sts [14]<| .ef 16<|Plan.sts [17,18,19]<| .fin)) (.fk 4 7 (.ef 7<| .ef 8<| .ef 9<|Plan.sts [10]<|Plan.sts [11]<|Plan.sts [12]<|Plan.sts [13]<|Plan.sts [14]<| .ef 16<|Plan.sts [17,18,19]<| .fin) (.ef 4<| .ef 8<| .ef 9<|Plan.sts [10]<|Plan.sts [11]<|Plan.sts [12]<|Plan.sts [13]<|Plan.sts [14]<| .ef 16<|Plan.sts [17,18,19]<| .fin))) (.fk 2 15 (.fk 4 15 (.fk 8 15 (.fk 9 15 (Plan.sts [10]<|Plan.sts [11]<|Plan.sts [12]<|Plan.sts [13]<|Plan.sts [14]<| .ef 15<| .ef 16<|Plan.sts [17,18,19]<| .fin) (.ef 9<|Plan.sts [10]<|Plan.sts [11]<|Plan.sts [12]<|Plan.sts [13]<|Plan.sts [14]<| .ef 16<|Plan.sts [17,18,19]<| .fin)) (.ef 8<| .ef 9<|Plan.sts [10]<|Plan.sts [11]<|Plan.sts [12]<|Plan.sts [13]<|Plan.sts [14]<| .ef 16<|Plan.sts [17,18,19]<| .fin)) (.ef 4<| .ef 8<| .ef 9<|Plan.sts [10]<|Plan.sts [11]<|Plan.sts [12]<|Plan.sts [13]<|Plan.sts [14]<| .ef 16<|Plan.sts [17,18,19]<| .fin)) (.ef 2<| .ef 4<| .ef 8<| .ef 9<|Plan.sts [10]<|Plan.sts [11]<|Plan.sts [12]<|Plan.sts [13]<|Plan.sts [14]<| .ef 16<|Plan.sts [17,18,19]<| .fin)) (.fk 2 7 (.fk 4 7 (.ef 7<| .ef 8<| .ef 9<|Plan.sts [10]<|Plan.sts [11]<|Plan.sts [12]<|Plan.sts [13]<|Plan.sts [14]<| .ef 16<|Plan.sts [17,18,19]<| .fin) (.ef 4<| .ef 8<| .ef 9<|Plan.sts [10]<|Plan.sts [11]<|Plan.sts [12]<|Plan.sts [13]<|Plan.sts [14]<| .ef 16<|Plan.sts [17,18,19]<| .fin)) (.ef 2<| .ef 4<| .ef 8<| .ef 9<|Plan.sts [10]<|Plan.sts [11]<|Plan.sts [12]<|Plan.sts [13]<|Plan.sts [14]<| .ef 16<|Plan.sts [17,18,19]<| .fin))) rfl kr ⟨cI x0 0,cI x0 0,cI x0 0,cI x0 0,cI x0 0,cI x0 0,cI x0 0,cI x0 0,trivial⟩ ?_
  have c3:=x0.drew
  refine qU [1,3,5]<|qY (.int .u8 (cut%256)) rfl (fun w _=>Y_conv (k:= .i64) (a:=cut) underlying3 underlying5 (wrap_u8 _) rfl kr)<|qY (.agg #[I 1,I 64,I 64,I 1048576,I 1,I 4096,I 1048576,I 64]) rfl (fun w hF=>Y_loadF rfl (isAgg70 w) (sizeOf70 w) kr rfl ⟨hF 0 _ _ rfl,hF 1 _ _ rfl,hF 2 _ _ rfl,hF 3 _ _ rfl,hF 4 _ _ rfl,hF 5 _ _ rfl,hF 6 _ _ rfl,hF 7 _ _ rfl,trivial⟩)<|qF3 ?_ ?_ ?_
  ·refine qO rfl<|sBS c3 #[] runUnderlying74 sizeOf5 zeroValue5 fun u2 _ d0=>nilO ⟨⟨cI d0 1,cI d0 1,cI d0 1,cI d0 1,cI d0 1,cI d0 1,cI d0 1,cI d0 1,trivial⟩,?_⟩
   refine qF3 ?_ ?_ ?_
   ·refine qO rfl<|sApp (nb:=1) d0 (OwnT.blk (enc:=encB) (sz:=1) (b:=u2) (c:=#[]) (E:=5) (xs:=[]) fR 0 rfl rfl rfl om) 0 (c0.rdAt 2 rfl) underlying74 (i:=Tryz.t5) kr fR fun _ _ _ _ d3 f0=>nilO ⟨⟨cI f0 1,cI f0 1,cI f0 1,cI f0 1,cI f0 1,cI f0 1,cI f0 1,cI f0 1,trivial⟩,?_⟩
    refine qF ?_ ?_
    rotate_left
    ·refine qO rfl<|sAlloc f0 zeroValue28 fun _ _ y0=>nilO ⟨⟨cI y0 2,cI y0 2,cI y0 2,cI y0 2,cI y0 2,cI y0 2,cI y0 2,cI y0 2,trivial⟩,?_⟩
     refine qO rfl<|sBS y0 #[.int .u8 (cut%256)] runUnderlying74 sizeOf5 zeroValue5 fun _ _ z0=>nilO ⟨⟨cI z0 3,cI z0 3,cI z0 3,cI z0 3,cI z0 3,cI z0 3,cI z0 3,cI z0 3,trivial⟩,?_⟩
     refine qO rfl<|sApp (nb:=1) z0 d3 2 (RdT.blk (enc:=encB) (sz:=1) (xs:=[(cut%256)]) fR 1 0 rfl rfl rfl om) underlying74 (i:=Tryz.t5) kr fR fun _ _ _ _ p6 a1=>nilO ⟨⟨cI a1 3,cI a1 3,cI a1 3,cI a1 3,cI a1 3,cI a1 3,cI a1 3,cI a1 3,trivial⟩,?_⟩
     refine qO rfl<|cX call36 (p26_check (F:=[]) (⟨1,64,64,1048576,1,4096,1048576,64⟩:Cfg) (⟨0,0,0⟩:Lod) (xs:=(([]++([84,70,1]++bytesOf (nJob a0.v)))++[(cut%256)])) (RdT.flat (p6.rdAt 2 (by rfl))) (Bytes.app (Bytes.app (fun _ h=>by cases h) (enc_bytes _)) (by intro b hb;simp at hb;omega)) (od) a1.flat) ?_
     rintro _ _ ⟨g3,_,_,_,_,_,e0_247,_,_,rfl,f4,_,q6,hz0_253,r6⟩
     have s6:=r6.unflat2;have hn_az_242:=f4.len;have hl_az_242:=f4.le
     have ha3:e0_247=4:=adm_cut q6 (by unfold admP;decide) (by decide) (fun dj dc hd=>dec_more hwf (by simp only [List.nil_append];rfl) (by simp) hd (by simp only [List.nil_append,List.length_append,List.length_singleton];rw [List.length_append] at hln;omega))
     refine nilO ⟨dA,?_⟩
     refine qU [10]<|qU [11]<|qU [12]<|qU [13]<|qU [14]<|qO rfl<|sT s6 3 0 (.agg (encJob g3).toArray) (encJob g3) (encJob g3).toArray sizeOf28 fun _ t6=>nilO ⟨dA,?_⟩
     exact qU [17,18,19]<|qN<|tN<|⟨e0_247,alA,(t6.drops [0,0,0,0,0,0,0]),ha3⟩
    refine qO rfl<|sBS f0 #[.int .u8 (cut%256)] runUnderlying74 sizeOf5 zeroValue5 fun _ _ g0=>nilO ⟨⟨cI g0 2,cI g0 2,cI g0 2,cI g0 2,cI g0 2,cI g0 2,cI g0 2,cI g0 2,trivial⟩,?_⟩
    refine qF ?_ ?_
    rotate_left
    ·refine qO rfl<|sAlloc g0 zeroValue28 fun _ _ b1=>nilO ⟨⟨cI b1 3,cI b1 3,cI b1 3,cI b1 3,cI b1 3,cI b1 3,cI b1 3,cI b1 3,trivial⟩,?_⟩
     refine qO rfl<|sApp (nb:=1) b1 d3 2 (RdT.blk (enc:=encB) (sz:=1) (xs:=[(cut%256)]) fR 1 1 rfl rfl rfl om) underlying74 (i:=Tryz.t5) kr fR fun _ _ _ _ v6 c1=>nilO ⟨⟨cI c1 3,cI c1 3,cI c1 3,cI c1 3,cI c1 3,cI c1 3,cI c1 3,cI c1 3,trivial⟩,?_⟩
     refine qO rfl<|cX call36 (p26_check (F:=[]) (⟨1,64,64,1048576,1,4096,1048576,64⟩:Cfg) (⟨0,0,0⟩:Lod) (xs:=(([]++([84,70,1]++bytesOf (nJob a0.v)))++[(cut%256)])) (RdT.flat (v6.rdAt 2 (by rfl))) (Bytes.app (Bytes.app (fun _ h=>by cases h) (enc_bytes _)) (by intro b hb;simp at hb;omega)) (od) c1.flat) ?_
     rintro _ _ ⟨h3,_,_,_,_,_,e0_215,_,_,rfl,g4,_,w6,hz0_221,x6⟩
     have y6:=x6.unflat2;have hn_az_210:=g4.len;have hl_az_210:=g4.le
     have ha3:e0_215=4:=adm_cut w6 (by unfold admP;decide) (by decide) (fun dj dc hd=>dec_more hwf (by simp only [List.nil_append];rfl) (by simp) hd (by simp only [List.nil_append,List.length_append,List.length_singleton];rw [List.length_append] at hln;omega))
     refine nilO ⟨dA,?_⟩
     refine qU [10]<|qU [11]<|qU [12]<|qU [13]<|qU [14]<|qO rfl<|sT y6 2 0 (.agg (encJob h3).toArray) (encJob h3) (encJob h3).toArray sizeOf28 fun _ z6=>nilO ⟨dA,?_⟩
     exact qU [17,18,19]<|qN<|tN<|⟨e0_215,alA,(z6.drops [0,0,0,0,0,0,0]),ha3⟩
    refine qO rfl<|sApp (nb:=1) g0 d3 1 (RdT.blk (enc:=encB) (sz:=1) (xs:=[(cut%256)]) fR 1 0 rfl rfl rfl om) underlying74 (i:=Tryz.t5) kr fR fun _ _ _ _ h4 h0=>nilO ⟨⟨cI h0 2,cI h0 2,cI h0 2,cI h0 2,cI h0 2,cI h0 2,cI h0 2,cI h0 2,trivial⟩,?_⟩
    refine qF ?_ ?_
    ·refine qO rfl<|cX call36 (p26_check (F:=[]) (⟨1,64,64,1048576,1,4096,1048576,64⟩:Cfg) (⟨0,0,0⟩:Lod) (xs:=(([]++([84,70,1]++bytesOf (nJob a0.v)))++[(cut%256)])) (RdT.flat (h4.rdAt 1 (by rfl))) (Bytes.app (Bytes.app (fun _ h=>by cases h) (enc_bytes _)) (by intro b hb;simp at hb;omega)) (od) h0.flat) ?_
     rintro _ _ ⟨i3,_,_,_,_,_,e0_160,_,_,rfl,i4,_,b7,hz0_166,c7⟩
     have d7:=c7.unflat2;have hn_az_155:=i4.len;have hl_az_155:=i4.le
     have ha3:e0_160=4:=adm_cut b7 (by unfold admP;decide) (by decide) (fun dj dc hd=>dec_more hwf (by simp only [List.nil_append];rfl) (by simp) hd (by simp only [List.nil_append,List.length_append,List.length_singleton];rw [List.length_append] at hln;omega))
     refine nilO ⟨dA,?_⟩
     refine qU [10]<|qU [11]<|qU [12]<|qU [13]<|qU [14]<|qO rfl<|sAlloc d7 zeroValue28 fun _ _ e7=>nilO ⟨dA,?_⟩
     refine qO rfl<|sT e7 0 0 (.agg (encJob i3).toArray) (encJob i3) (encJob i3).toArray sizeOf28 fun _ f7=>nilO ⟨dA,?_⟩
     exact qU [17,18,19]<|qN<|tN<|⟨e0_160,alA,(f7.drops [0,0,0,0,0,0,0]),ha3⟩
    refine qO rfl<|sAlloc h0 zeroValue28 fun _ _ d1=>nilO ⟨⟨cI d1 3,cI d1 3,cI d1 3,cI d1 3,cI d1 3,cI d1 3,cI d1 3,cI d1 3,trivial⟩,?_⟩
    refine qO rfl<|cX call36 (p26_check (F:=[]) (⟨1,64,64,1048576,1,4096,1048576,64⟩:Cfg) (⟨0,0,0⟩:Lod) (xs:=(([]++([84,70,1]++bytesOf (nJob a0.v)))++[(cut%256)])) (RdT.flat (h4.rdAt 2 (by rfl))) (Bytes.app (Bytes.app (fun _ h=>by cases h) (enc_bytes _)) (by intro b hb;simp at hb;omega)) (od) d1.flat) ?_
    rintro _ _ ⟨j3,_,_,_,_,_,e0_186,_,_,rfl,j4,_,h7,hz0_192,i7⟩
    have j7:=i7.unflat2;have hn_az_181:=j4.len;have hl_az_181:=j4.le
    have ha3:e0_186=4:=adm_cut h7 (by unfold admP;decide) (by decide) (fun dj dc hd=>dec_more hwf (by simp only [List.nil_append];rfl) (by simp) hd (by simp only [List.nil_append,List.length_append,List.length_singleton];rw [List.length_append] at hln;omega))
    refine nilO ⟨dA,?_⟩
    refine qU [10]<|qU [11]<|qU [12]<|qU [13]<|qU [14]<|qO rfl<|sT j7 2 0 (.agg (encJob j3).toArray) (encJob j3) (encJob j3).toArray sizeOf28 fun _ k7=>nilO ⟨dA,?_⟩
    exact qU [17,18,19]<|qN<|tN<|⟨e0_186,alA,(k7.drops [0,0,0,0,0,0,0]),ha3⟩
   ·refine qO rfl<|sBS d0 #[.int .u8 (cut%256)] runUnderlying74 sizeOf5 zeroValue5 fun _ _ i0=>nilO ⟨⟨cI i0 2,cI i0 2,cI i0 2,cI i0 2,cI i0 2,cI i0 2,cI i0 2,cI i0 2,trivial⟩,?_⟩
    refine qF ?_ ?_
    rotate_left
    ·refine qO rfl<|sAlloc i0 zeroValue28 fun _ _ e1=>nilO ⟨⟨cI e1 3,cI e1 3,cI e1 3,cI e1 3,cI e1 3,cI e1 3,cI e1 3,cI e1 3,trivial⟩,?_⟩
     refine qO rfl<|sApp (nb:=1) e1 (OwnT.blk (enc:=encB) (sz:=1) (b:=u2) (c:=#[]) (E:=5) (xs:=[]) fR 0 rfl rfl rfl om) 2 (c0.rdAt 4 rfl) underlying74 (i:=Tryz.t5) kr fR fun _ _ _ _ n7 f1=>nilO ⟨⟨cI f1 3,cI f1 3,cI f1 3,cI f1 3,cI f1 3,cI f1 3,cI f1 3,cI f1 3,trivial⟩,?_⟩
     refine qO rfl<|sApp (nb:=1) f1 n7 2 (RdT.blk (enc:=encB) (sz:=1) (xs:=[(cut%256)]) fR 1 1 rfl rfl rfl om) underlying74 (i:=Tryz.t5) kr fR fun _ _ _ _ o7 g1=>nilO ⟨⟨cI g1 3,cI g1 3,cI g1 3,cI g1 3,cI g1 3,cI g1 3,cI g1 3,cI g1 3,trivial⟩,?_⟩
     refine qO rfl<|cX call36 (p26_check (F:=[]) (⟨1,64,64,1048576,1,4096,1048576,64⟩:Cfg) (⟨0,0,0⟩:Lod) (xs:=(([]++([84,70,1]++bytesOf (nJob a0.v)))++[(cut%256)])) (RdT.flat (o7.rdAt 2 (by rfl))) (Bytes.app (Bytes.app (fun _ h=>by cases h) (enc_bytes _)) (by intro b hb;simp at hb;omega)) (od) g1.flat) ?_
     rintro _ _ ⟨k3,_,_,_,_,_,e0_374,_,_,rfl,k4,_,p7,hz0_380,q7⟩
     have r7:=q7.unflat2;have hn_az_369:=k4.len;have hl_az_369:=k4.le
     have ha3:e0_374=4:=adm_cut p7 (by unfold admP;decide) (by decide) (fun dj dc hd=>dec_more hwf (by simp only [List.nil_append];rfl) (by simp) hd (by simp only [List.nil_append,List.length_append,List.length_singleton];rw [List.length_append] at hln;omega))
     refine nilO ⟨dA,?_⟩
     refine qU [10]<|qU [11]<|qU [12]<|qU [13]<|qU [14]<|qO rfl<|sT r7 2 0 (.agg (encJob k3).toArray) (encJob k3) (encJob k3).toArray sizeOf28 fun _ s7=>nilO ⟨dA,?_⟩
     exact qU [17,18,19]<|qN<|tN<|⟨e0_374,alA,(s7.drops [0,0,0,0,0,0,0]),ha3⟩
    refine qO rfl<|sApp (nb:=1) i0 (OwnT.blk (enc:=encB) (sz:=1) (b:=u2) (c:=#[]) (E:=5) (xs:=[]) fR 0 rfl rfl rfl om) 1 (c0.rdAt 3 rfl) underlying74 (i:=Tryz.t5) kr fR fun _ _ _ _ l4 j0=>nilO ⟨⟨cI j0 2,cI j0 2,cI j0 2,cI j0 2,cI j0 2,cI j0 2,cI j0 2,cI j0 2,trivial⟩,?_⟩
    refine qF ?_ ?_
    rotate_left
    ·refine qO rfl<|sAlloc j0 zeroValue28 fun _ _ i1=>nilO ⟨⟨cI i1 3,cI i1 3,cI i1 3,cI i1 3,cI i1 3,cI i1 3,cI i1 3,cI i1 3,trivial⟩,?_⟩
     refine qO rfl<|sApp (nb:=1) i1 l4 2 (RdT.blk (enc:=encB) (sz:=1) (xs:=[(cut%256)]) fR 1 1 rfl rfl rfl om) underlying74 (i:=Tryz.t5) kr fR fun _ _ _ _ v7 j1=>nilO ⟨⟨cI j1 3,cI j1 3,cI j1 3,cI j1 3,cI j1 3,cI j1 3,cI j1 3,cI j1 3,trivial⟩,?_⟩
     refine qO rfl<|cX call36 (p26_check (F:=[]) (⟨1,64,64,1048576,1,4096,1048576,64⟩:Cfg) (⟨0,0,0⟩:Lod) (xs:=(([]++([84,70,1]++bytesOf (nJob a0.v)))++[(cut%256)])) (RdT.flat (v7.rdAt 2 (by rfl))) (Bytes.app (Bytes.app (fun _ h=>by cases h) (enc_bytes _)) (by intro b hb;simp at hb;omega)) (od) j1.flat) ?_
     rintro _ _ ⟨l3,_,_,_,_,_,e0_338,_,_,rfl,m4,_,w7,hz0_344,x7⟩
     have y7:=x7.unflat2;have hn_az_333:=m4.len;have hl_az_333:=m4.le
     have ha3:e0_338=4:=adm_cut w7 (by unfold admP;decide) (by decide) (fun dj dc hd=>dec_more hwf (by simp only [List.nil_append];rfl) (by simp) hd (by simp only [List.nil_append,List.length_append,List.length_singleton];rw [List.length_append] at hln;omega))
     refine nilO ⟨dA,?_⟩
     refine qU [10]<|qU [11]<|qU [12]<|qU [13]<|qU [14]<|qO rfl<|sT y7 2 0 (.agg (encJob l3).toArray) (encJob l3) (encJob l3).toArray sizeOf28 fun _ z7=>nilO ⟨dA,?_⟩
     exact qU [17,18,19]<|qN<|tN<|⟨e0_338,alA,(z7.drops [0,0,0,0,0,0,0]),ha3⟩
    refine qO rfl<|sApp (nb:=1) j0 l4 1 (RdT.blk (enc:=encB) (sz:=1) (xs:=[(cut%256)]) fR 1 0 rfl rfl rfl om) underlying74 (i:=Tryz.t5) kr fR fun _ _ _ _ n4 k0=>nilO ⟨⟨cI k0 2,cI k0 2,cI k0 2,cI k0 2,cI k0 2,cI k0 2,cI k0 2,cI k0 2,trivial⟩,?_⟩
    refine qF ?_ ?_
    ·refine qO rfl<|cX call36 (p26_check (F:=[]) (⟨1,64,64,1048576,1,4096,1048576,64⟩:Cfg) (⟨0,0,0⟩:Lod) (xs:=(([]++([84,70,1]++bytesOf (nJob a0.v)))++[(cut%256)])) (RdT.flat (n4.rdAt 1 (by rfl))) (Bytes.app (Bytes.app (fun _ h=>by cases h) (enc_bytes _)) (by intro b hb;simp at hb;omega)) (od) k0.flat) ?_
     rintro _ _ ⟨m3,_,_,_,_,_,e0_283,_,_,rfl,o4,_,b8,hz0_289,c8⟩
     have d8:=c8.unflat2;have hn_az_278:=o4.len;have hl_az_278:=o4.le
     have ha3:e0_283=4:=adm_cut b8 (by unfold admP;decide) (by decide) (fun dj dc hd=>dec_more hwf (by simp only [List.nil_append];rfl) (by simp) hd (by simp only [List.nil_append,List.length_append,List.length_singleton];rw [List.length_append] at hln;omega))
     refine nilO ⟨dA,?_⟩
     refine qU [10]<|qU [11]<|qU [12]<|qU [13]<|qU [14]<|qO rfl<|sAlloc d8 zeroValue28 fun _ _ e8=>nilO ⟨dA,?_⟩
     refine qO rfl<|sT e8 0 0 (.agg (encJob m3).toArray) (encJob m3) (encJob m3).toArray sizeOf28 fun _ f8=>nilO ⟨dA,?_⟩
     exact qU [17,18,19]<|qN<|tN<|⟨e0_283,alA,(f8.drops [0,0,0,0,0,0,0]),ha3⟩
    refine qO rfl<|sAlloc k0 zeroValue28 fun _ _ k1=>nilO ⟨⟨cI k1 3,cI k1 3,cI k1 3,cI k1 3,cI k1 3,cI k1 3,cI k1 3,cI k1 3,trivial⟩,?_⟩
    refine qO rfl<|cX call36 (p26_check (F:=[]) (⟨1,64,64,1048576,1,4096,1048576,64⟩:Cfg) (⟨0,0,0⟩:Lod) (xs:=(([]++([84,70,1]++bytesOf (nJob a0.v)))++[(cut%256)])) (RdT.flat (n4.rdAt 2 (by rfl))) (Bytes.app (Bytes.app (fun _ h=>by cases h) (enc_bytes _)) (by intro b hb;simp at hb;omega)) (od) k1.flat) ?_
    rintro _ _ ⟨n3,_,_,_,_,_,e0_309,_,_,rfl,p4,_,h8,hz0_315,i8⟩
    have j8:=i8.unflat2;have hn_az_304:=p4.len;have hl_az_304:=p4.le
    have ha3:e0_309=4:=adm_cut h8 (by unfold admP;decide) (by decide) (fun dj dc hd=>dec_more hwf (by simp only [List.nil_append];rfl) (by simp) hd (by simp only [List.nil_append,List.length_append,List.length_singleton];rw [List.length_append] at hln;omega))
    refine nilO ⟨dA,?_⟩
    refine qU [10]<|qU [11]<|qU [12]<|qU [13]<|qU [14]<|qO rfl<|sT j8 2 0 (.agg (encJob n3).toArray) (encJob n3) (encJob n3).toArray sizeOf28 fun _ k8=>nilO ⟨dA,?_⟩
    exact qU [17,18,19]<|qN<|tN<|⟨e0_309,alA,(k8.drops [0,0,0,0,0,0,0]),ha3⟩
   refine qO rfl<|sAlloc d0 zeroValue28 fun _ _ m0=>nilO ⟨⟨cI m0 2,cI m0 2,cI m0 2,cI m0 2,cI m0 2,cI m0 2,cI m0 2,cI m0 2,trivial⟩,?_⟩
   refine qF ?_ ?_
   rotate_left
   ·refine qO rfl<|sBS m0 #[.int .u8 (cut%256)] runUnderlying74 sizeOf5 zeroValue5 fun _ _ l1=>nilO ⟨⟨cI l1 3,cI l1 3,cI l1 3,cI l1 3,cI l1 3,cI l1 3,cI l1 3,cI l1 3,trivial⟩,?_⟩
    refine qO rfl<|sApp (nb:=1) l1 (OwnT.blk (enc:=encB) (sz:=1) (b:=u2) (c:=#[]) (E:=5) (xs:=[]) fR 0 rfl rfl rfl om) 2 (c0.rdAt 4 rfl) underlying74 (i:=Tryz.t5) kr fR fun _ _ _ _ n8 m1=>nilO ⟨⟨cI m1 3,cI m1 3,cI m1 3,cI m1 3,cI m1 3,cI m1 3,cI m1 3,cI m1 3,trivial⟩,?_⟩
    refine qO rfl<|sApp (nb:=1) m1 n8 2 (RdT.blk (enc:=encB) (sz:=1) (xs:=[(cut%256)]) fR 1 0 rfl rfl rfl om) underlying74 (i:=Tryz.t5) kr fR fun _ _ _ _ o8 n1=>nilO ⟨⟨cI n1 3,cI n1 3,cI n1 3,cI n1 3,cI n1 3,cI n1 3,cI n1 3,cI n1 3,trivial⟩,?_⟩
    refine qO rfl<|cX call36 (p26_check (F:=[]) (⟨1,64,64,1048576,1,4096,1048576,64⟩:Cfg) (⟨0,0,0⟩:Lod) (xs:=(([]++([84,70,1]++bytesOf (nJob a0.v)))++[(cut%256)])) (RdT.flat (o8.rdAt 2 (by rfl))) (Bytes.app (Bytes.app (fun _ h=>by cases h) (enc_bytes _)) (by intro b hb;simp at hb;omega)) (od) n1.flat) ?_
    rintro _ _ ⟨o3,_,_,_,_,_,e0_449,_,_,rfl,q4,_,p8,hz0_455,q8⟩
    have r8:=q8.unflat2;have hn_az_444:=q4.len;have hl_az_444:=q4.le
    have ha3:e0_449=4:=adm_cut p8 (by unfold admP;decide) (by decide) (fun dj dc hd=>dec_more hwf (by simp only [List.nil_append];rfl) (by simp) hd (by simp only [List.nil_append,List.length_append,List.length_singleton];rw [List.length_append] at hln;omega))
    refine nilO ⟨dA,?_⟩
    refine qU [10]<|qU [11]<|qU [12]<|qU [13]<|qU [14]<|qO rfl<|sT r8 3 0 (.agg (encJob o3).toArray) (encJob o3) (encJob o3).toArray sizeOf28 fun _ s8=>nilO ⟨dA,?_⟩
    exact qU [17,18,19]<|qN<|tN<|⟨e0_449,alA,(s8.drops [0,0,0,0,0,0,0]),ha3⟩
   refine qO rfl<|sApp (nb:=1) m0 (OwnT.blk (enc:=encB) (sz:=1) (b:=u2) (c:=#[]) (E:=5) (xs:=[]) fR 0 rfl rfl rfl om) 1 (c0.rdAt 3 rfl) underlying74 (i:=Tryz.t5) kr fR fun _ _ _ _ w8 o1=>nilO ⟨⟨cI o1 2,cI o1 2,cI o1 2,cI o1 2,cI o1 2,cI o1 2,cI o1 2,cI o1 2,trivial⟩,?_⟩
   refine qO rfl<|sBS o1 #[.int .u8 (cut%256)] runUnderlying74 sizeOf5 zeroValue5 fun _ _ q1=>nilO ⟨⟨cI q1 3,cI q1 3,cI q1 3,cI q1 3,cI q1 3,cI q1 3,cI q1 3,cI q1 3,trivial⟩,?_⟩
   refine qO rfl<|sApp (nb:=1) q1 w8 2 (RdT.blk (enc:=encB) (sz:=1) (xs:=[(cut%256)]) fR 1 0 rfl rfl rfl om) underlying74 (i:=Tryz.t5) kr fR fun _ _ _ _ x8 r1=>nilO ⟨⟨cI r1 3,cI r1 3,cI r1 3,cI r1 3,cI r1 3,cI r1 3,cI r1 3,cI r1 3,trivial⟩,?_⟩
   refine qO rfl<|cX call36 (p26_check (F:=[]) (⟨1,64,64,1048576,1,4096,1048576,64⟩:Cfg) (⟨0,0,0⟩:Lod) (xs:=(([]++([84,70,1]++bytesOf (nJob a0.v)))++[(cut%256)])) (RdT.flat (x8.rdAt 2 (by rfl))) (Bytes.app (Bytes.app (fun _ h=>by cases h) (enc_bytes _)) (by intro b hb;simp at hb;omega)) (od) r1.flat) ?_
   rintro _ _ ⟨p3,_,_,_,_,_,e0_413,_,_,rfl,r4,_,y8,hz0_419,z8⟩
   have a9:=z8.unflat2;have hn_az_408:=r4.len;have hl_az_408:=r4.le
   have ha3:e0_413=4:=adm_cut y8 (by unfold admP;decide) (by decide) (fun dj dc hd=>dec_more hwf (by simp only [List.nil_append];rfl) (by simp) hd (by simp only [List.nil_append,List.length_append,List.length_singleton];rw [List.length_append] at hln;omega))
   refine nilO ⟨dA,?_⟩
   refine qU [10]<|qU [11]<|qU [12]<|qU [13]<|qU [14]<|qO rfl<|sT a9 3 0 (.agg (encJob p3).toArray) (encJob p3) (encJob p3).toArray sizeOf28 fun _ b9=>nilO ⟨dA,?_⟩
   exact qU [17,18,19]<|qN<|tN<|⟨e0_413,alA,(b9.drops [0,0,0,0,0,0,0]),ha3⟩
  ·refine qO rfl<|sBS c3 #[.int .u8 (cut%256)] runUnderlying74 sizeOf5 zeroValue5 fun _ _ n0=>nilO ⟨⟨cI n0 1,cI n0 1,cI n0 1,cI n0 1,cI n0 1,cI n0 1,cI n0 1,cI n0 1,trivial⟩,?_⟩
   refine qF ?_ ?_
   rotate_left
   ·refine qO rfl<|sAlloc n0 zeroValue28 fun _ _ s1=>nilO ⟨⟨cI s1 2,cI s1 2,cI s1 2,cI s1 2,cI s1 2,cI s1 2,cI s1 2,cI s1 2,trivial⟩,?_⟩
    refine qO rfl<|sBS s1 #[] runUnderlying74 sizeOf5 zeroValue5 fun d9 _ t1=>nilO ⟨⟨cI t1 3,cI t1 3,cI t1 3,cI t1 3,cI t1 3,cI t1 3,cI t1 3,cI t1 3,trivial⟩,?_⟩
    refine qO rfl<|sApp (nb:=1) t1 (OwnT.blk (enc:=encB) (sz:=1) (b:=d9) (c:=#[]) (E:=5) (xs:=[]) fR 0 rfl rfl rfl om) 0 (c0.rdAt 4 rfl) underlying74 (i:=Tryz.t5) kr fR fun _ _ _ _ f9 u1=>nilO ⟨⟨cI u1 3,cI u1 3,cI u1 3,cI u1 3,cI u1 3,cI u1 3,cI u1 3,cI u1 3,trivial⟩,?_⟩
    refine qO rfl<|sApp (nb:=1) u1 f9 0 (RdT.blk (enc:=encB) (sz:=1) (xs:=[(cut%256)]) fR 1 2 rfl rfl rfl om) underlying74 (i:=Tryz.t5) kr fR fun _ _ _ _ g9 v1=>nilO ⟨⟨cI v1 3,cI v1 3,cI v1 3,cI v1 3,cI v1 3,cI v1 3,cI v1 3,cI v1 3,trivial⟩,?_⟩
    refine qO rfl<|cX call36 (p26_check (F:=[]) (⟨1,64,64,1048576,1,4096,1048576,64⟩:Cfg) (⟨0,0,0⟩:Lod) (xs:=(([]++([84,70,1]++bytesOf (nJob a0.v)))++[(cut%256)])) (RdT.flat (g9.rdAt 0 (by rfl))) (Bytes.app (Bytes.app (fun _ h=>by cases h) (enc_bytes _)) (by intro b hb;simp at hb;omega)) (od) v1.flat) ?_
    rintro _ _ ⟨q3,_,_,_,_,_,e0_618,_,_,rfl,s4,_,h9,hz0_624,i9⟩
    have j9:=i9.unflat2;have hn_az_613:=s4.len;have hl_az_613:=s4.le
    have ha3:e0_618=4:=adm_cut h9 (by unfold admP;decide) (by decide) (fun dj dc hd=>dec_more hwf (by simp only [List.nil_append];rfl) (by simp) hd (by simp only [List.nil_append,List.length_append,List.length_singleton];rw [List.length_append] at hln;omega))
    refine nilO ⟨dA,?_⟩
    refine qU [10]<|qU [11]<|qU [12]<|qU [13]<|qU [14]<|qO rfl<|sT j9 3 0 (.agg (encJob q3).toArray) (encJob q3) (encJob q3).toArray sizeOf28 fun _ k9=>nilO ⟨dA,?_⟩
    exact qU [17,18,19]<|qN<|tN<|⟨e0_618,alA,(k9.drops [0,0,0,0,0,0,0]),ha3⟩
   refine qO rfl<|sBS n0 #[] runUnderlying74 sizeOf5 zeroValue5 fun t4 _ o0=>nilO ⟨⟨cI o0 2,cI o0 2,cI o0 2,cI o0 2,cI o0 2,cI o0 2,cI o0 2,cI o0 2,trivial⟩,?_⟩
   refine qF ?_ ?_
   rotate_left
   ·refine qO rfl<|sAlloc o0 zeroValue28 fun _ _ w1=>nilO ⟨⟨cI w1 3,cI w1 3,cI w1 3,cI w1 3,cI w1 3,cI w1 3,cI w1 3,cI w1 3,trivial⟩,?_⟩
    refine qO rfl<|sApp (nb:=1) w1 (OwnT.blk (enc:=encB) (sz:=1) (b:=t4) (c:=#[]) (E:=5) (xs:=[]) fR 0 rfl rfl rfl om) 1 (c0.rdAt 4 rfl) underlying74 (i:=Tryz.t5) kr fR fun _ _ _ _ n9 x1=>nilO ⟨⟨cI x1 3,cI x1 3,cI x1 3,cI x1 3,cI x1 3,cI x1 3,cI x1 3,cI x1 3,trivial⟩,?_⟩
    refine qO rfl<|sApp (nb:=1) x1 n9 1 (RdT.blk (enc:=encB) (sz:=1) (xs:=[(cut%256)]) fR 1 2 rfl rfl rfl om) underlying74 (i:=Tryz.t5) kr fR fun _ _ _ _ o9 y1=>nilO ⟨⟨cI y1 3,cI y1 3,cI y1 3,cI y1 3,cI y1 3,cI y1 3,cI y1 3,cI y1 3,trivial⟩,?_⟩
    refine qO rfl<|cX call36 (p26_check (F:=[]) (⟨1,64,64,1048576,1,4096,1048576,64⟩:Cfg) (⟨0,0,0⟩:Lod) (xs:=(([]++([84,70,1]++bytesOf (nJob a0.v)))++[(cut%256)])) (RdT.flat (o9.rdAt 1 (by rfl))) (Bytes.app (Bytes.app (fun _ h=>by cases h) (enc_bytes _)) (by intro b hb;simp at hb;omega)) (od) y1.flat) ?_
    rintro _ _ ⟨r3,_,_,_,_,_,e0_579,_,_,rfl,u4,_,p9,hz0_585,q9⟩
    have r9:=q9.unflat2;have hn_az_574:=u4.len;have hl_az_574:=u4.le
    have ha3:e0_579=4:=adm_cut p9 (by unfold admP;decide) (by decide) (fun dj dc hd=>dec_more hwf (by simp only [List.nil_append];rfl) (by simp) hd (by simp only [List.nil_append,List.length_append,List.length_singleton];rw [List.length_append] at hln;omega))
    refine nilO ⟨dA,?_⟩
    refine qU [10]<|qU [11]<|qU [12]<|qU [13]<|qU [14]<|qO rfl<|sT r9 2 0 (.agg (encJob r3).toArray) (encJob r3) (encJob r3).toArray sizeOf28 fun _ s9=>nilO ⟨dA,?_⟩
    exact qU [17,18,19]<|qN<|tN<|⟨e0_579,alA,(s9.drops [0,0,0,0,0,0,0]),ha3⟩
   refine qO rfl<|sApp (nb:=1) o0 (OwnT.blk (enc:=encB) (sz:=1) (b:=t4) (c:=#[]) (E:=5) (xs:=[]) fR 0 rfl rfl rfl om) 0 (c0.rdAt 3 rfl) underlying74 (i:=Tryz.t5) kr fR fun _ _ _ _ v4 p0=>nilO ⟨⟨cI p0 2,cI p0 2,cI p0 2,cI p0 2,cI p0 2,cI p0 2,cI p0 2,cI p0 2,trivial⟩,?_⟩
   refine qF ?_ ?_
   rotate_left
   ·refine qO rfl<|sAlloc p0 zeroValue28 fun _ _ z1=>nilO ⟨⟨cI z1 3,cI z1 3,cI z1 3,cI z1 3,cI z1 3,cI z1 3,cI z1 3,cI z1 3,trivial⟩,?_⟩
    refine qO rfl<|sApp (nb:=1) z1 v4 1 (RdT.blk (enc:=encB) (sz:=1) (xs:=[(cut%256)]) fR 1 2 rfl rfl rfl om) underlying74 (i:=Tryz.t5) kr fR fun _ _ _ _ v9 a2=>nilO ⟨⟨cI a2 3,cI a2 3,cI a2 3,cI a2 3,cI a2 3,cI a2 3,cI a2 3,cI a2 3,trivial⟩,?_⟩
    refine qO rfl<|cX call36 (p26_check (F:=[]) (⟨1,64,64,1048576,1,4096,1048576,64⟩:Cfg) (⟨0,0,0⟩:Lod) (xs:=(([]++([84,70,1]++bytesOf (nJob a0.v)))++[(cut%256)])) (RdT.flat (v9.rdAt 1 (by rfl))) (Bytes.app (Bytes.app (fun _ h=>by cases h) (enc_bytes _)) (by intro b hb;simp at hb;omega)) (od) a2.flat) ?_
    rintro _ _ ⟨s3,_,_,_,_,_,e0_543,_,_,rfl,w4,_,w9,hz0_549,x9⟩
    have y9:=x9.unflat2;have hn_az_538:=w4.len;have hl_az_538:=w4.le
    have ha3:e0_543=4:=adm_cut w9 (by unfold admP;decide) (by decide) (fun dj dc hd=>dec_more hwf (by simp only [List.nil_append];rfl) (by simp) hd (by simp only [List.nil_append,List.length_append,List.length_singleton];rw [List.length_append] at hln;omega))
    refine nilO ⟨dA,?_⟩
    refine qU [10]<|qU [11]<|qU [12]<|qU [13]<|qU [14]<|qO rfl<|sT y9 2 0 (.agg (encJob s3).toArray) (encJob s3) (encJob s3).toArray sizeOf28 fun _ z9=>nilO ⟨dA,?_⟩
    exact qU [17,18,19]<|qN<|tN<|⟨e0_543,alA,(z9.drops [0,0,0,0,0,0,0]),ha3⟩
   refine qO rfl<|sApp (nb:=1) p0 v4 0 (RdT.blk (enc:=encB) (sz:=1) (xs:=[(cut%256)]) fR 1 1 rfl rfl rfl om) underlying74 (i:=Tryz.t5) kr fR fun _ _ _ _ x4 q0=>nilO ⟨⟨cI q0 2,cI q0 2,cI q0 2,cI q0 2,cI q0 2,cI q0 2,cI q0 2,cI q0 2,trivial⟩,?_⟩
   refine qF ?_ ?_
   ·refine qO rfl<|cX call36 (p26_check (F:=[]) (⟨1,64,64,1048576,1,4096,1048576,64⟩:Cfg) (⟨0,0,0⟩:Lod) (xs:=(([]++([84,70,1]++bytesOf (nJob a0.v)))++[(cut%256)])) (RdT.flat (x4.rdAt 0 (by rfl))) (Bytes.app (Bytes.app (fun _ h=>by cases h) (enc_bytes _)) (by intro b hb;simp at hb;omega)) (od) q0.flat) ?_
    rintro _ _ ⟨t3,_,_,_,_,_,e0_488,_,_,rfl,y4,_,ba,hz0_494,ca⟩
    have da:=ca.unflat2;have hn_az_483:=y4.len;have hl_az_483:=y4.le
    have ha3:e0_488=4:=adm_cut ba (by unfold admP;decide) (by decide) (fun dj dc hd=>dec_more hwf (by simp only [List.nil_append];rfl) (by simp) hd (by simp only [List.nil_append,List.length_append,List.length_singleton];rw [List.length_append] at hln;omega))
    refine nilO ⟨dA,?_⟩
    refine qU [10]<|qU [11]<|qU [12]<|qU [13]<|qU [14]<|qO rfl<|sAlloc da zeroValue28 fun _ _ ea=>nilO ⟨dA,?_⟩
    refine qO rfl<|sT ea 0 0 (.agg (encJob t3).toArray) (encJob t3) (encJob t3).toArray sizeOf28 fun _ fa=>nilO ⟨dA,?_⟩
    exact qU [17,18,19]<|qN<|tN<|⟨e0_488,alA,(fa.drops [0,0,0,0,0,0,0]),ha3⟩
   refine qO rfl<|sAlloc q0 zeroValue28 fun _ _ b2=>nilO ⟨⟨cI b2 3,cI b2 3,cI b2 3,cI b2 3,cI b2 3,cI b2 3,cI b2 3,cI b2 3,trivial⟩,?_⟩
   refine qO rfl<|cX call36 (p26_check (F:=[]) (⟨1,64,64,1048576,1,4096,1048576,64⟩:Cfg) (⟨0,0,0⟩:Lod) (xs:=(([]++([84,70,1]++bytesOf (nJob a0.v)))++[(cut%256)])) (RdT.flat (x4.rdAt 1 (by rfl))) (Bytes.app (Bytes.app (fun _ h=>by cases h) (enc_bytes _)) (by intro b hb;simp at hb;omega)) (od) b2.flat) ?_
   rintro _ _ ⟨u3,_,_,_,_,_,e0_514,_,_,rfl,z4,_,ha,hz0_520,ia⟩
   have ja:=ia.unflat2;have hn_az_509:=z4.len;have hl_az_509:=z4.le
   have ha3:e0_514=4:=adm_cut ha (by unfold admP;decide) (by decide) (fun dj dc hd=>dec_more hwf (by simp only [List.nil_append];rfl) (by simp) hd (by simp only [List.nil_append,List.length_append,List.length_singleton];rw [List.length_append] at hln;omega))
   refine nilO ⟨dA,?_⟩
   refine qU [10]<|qU [11]<|qU [12]<|qU [13]<|qU [14]<|qO rfl<|sT ja 2 0 (.agg (encJob u3).toArray) (encJob u3) (encJob u3).toArray sizeOf28 fun _ ka=>nilO ⟨dA,?_⟩
   exact qU [17,18,19]<|qN<|tN<|⟨e0_514,alA,(ka.drops [0,0,0,0,0,0,0]),ha3⟩
  refine qO rfl<|sAlloc c3 zeroValue28 fun _ _ r0=>nilO ⟨⟨cI r0 1,cI r0 1,cI r0 1,cI r0 1,cI r0 1,cI r0 1,cI r0 1,cI r0 1,trivial⟩,?_⟩
  refine qF ?_ ?_
  rotate_left
  ·refine qO rfl<|sBS r0 #[.int .u8 (cut%256)] runUnderlying74 sizeOf5 zeroValue5 fun _ _ c2=>nilO ⟨⟨cI c2 2,cI c2 2,cI c2 2,cI c2 2,cI c2 2,cI c2 2,cI c2 2,cI c2 2,trivial⟩,?_⟩
   refine qO rfl<|sBS c2 #[] runUnderlying74 sizeOf5 zeroValue5 fun ma _ d2=>nilO ⟨⟨cI d2 3,cI d2 3,cI d2 3,cI d2 3,cI d2 3,cI d2 3,cI d2 3,cI d2 3,trivial⟩,?_⟩
   refine qO rfl<|sApp (nb:=1) d2 (OwnT.blk (enc:=encB) (sz:=1) (b:=ma) (c:=#[]) (E:=5) (xs:=[]) fR 0 rfl rfl rfl om) 0 (c0.rdAt 4 rfl) underlying74 (i:=Tryz.t5) kr fR fun _ _ _ _ oa f2=>nilO ⟨⟨cI f2 3,cI f2 3,cI f2 3,cI f2 3,cI f2 3,cI f2 3,cI f2 3,cI f2 3,trivial⟩,?_⟩
   refine qO rfl<|sApp (nb:=1) f2 oa 0 (RdT.blk (enc:=encB) (sz:=1) (xs:=[(cut%256)]) fR 1 1 rfl rfl rfl om) underlying74 (i:=Tryz.t5) kr fR fun _ _ _ _ pa g2=>nilO ⟨⟨cI g2 3,cI g2 3,cI g2 3,cI g2 3,cI g2 3,cI g2 3,cI g2 3,cI g2 3,trivial⟩,?_⟩
   refine qO rfl<|cX call36 (p26_check (F:=[]) (⟨1,64,64,1048576,1,4096,1048576,64⟩:Cfg) (⟨0,0,0⟩:Lod) (xs:=(([]++([84,70,1]++bytesOf (nJob a0.v)))++[(cut%256)])) (RdT.flat (pa.rdAt 0 (by rfl))) (Bytes.app (Bytes.app (fun _ h=>by cases h) (enc_bytes _)) (by intro b hb;simp at hb;omega)) (od) g2.flat) ?_
   rintro _ _ ⟨v3,_,_,_,_,_,e0_735,_,_,rfl,a5,_,qa,hz0_741,ra⟩
   have sa:=ra.unflat2;have hn_az_730:=a5.len;have hl_az_730:=a5.le
   have ha3:e0_735=4:=adm_cut qa (by unfold admP;decide) (by decide) (fun dj dc hd=>dec_more hwf (by simp only [List.nil_append];rfl) (by simp) hd (by simp only [List.nil_append,List.length_append,List.length_singleton];rw [List.length_append] at hln;omega))
   refine nilO ⟨dA,?_⟩
   refine qU [10]<|qU [11]<|qU [12]<|qU [13]<|qU [14]<|qO rfl<|sT sa 4 0 (.agg (encJob v3).toArray) (encJob v3) (encJob v3).toArray sizeOf28 fun _ ta=>nilO ⟨dA,?_⟩
   exact qU [17,18,19]<|qN<|tN<|⟨e0_735,alA,(ta.drops [0,0,0,0,0,0,0]),ha3⟩
  refine qO rfl<|sBS r0 #[] runUnderlying74 sizeOf5 zeroValue5 fun b5 _ s0=>nilO ⟨⟨cI s0 2,cI s0 2,cI s0 2,cI s0 2,cI s0 2,cI s0 2,cI s0 2,cI s0 2,trivial⟩,?_⟩
  refine qF ?_ ?_
  rotate_left
  ·refine qO rfl<|sBS s0 #[.int .u8 (cut%256)] runUnderlying74 sizeOf5 zeroValue5 fun _ _ i2=>nilO ⟨⟨cI i2 3,cI i2 3,cI i2 3,cI i2 3,cI i2 3,cI i2 3,cI i2 3,cI i2 3,trivial⟩,?_⟩
   refine qO rfl<|sApp (nb:=1) i2 (OwnT.blk (enc:=encB) (sz:=1) (b:=b5) (c:=#[]) (E:=5) (xs:=[]) fR 0 rfl rfl rfl om) 1 (c0.rdAt 4 rfl) underlying74 (i:=Tryz.t5) kr fR fun _ _ _ _ wa j2=>nilO ⟨⟨cI j2 3,cI j2 3,cI j2 3,cI j2 3,cI j2 3,cI j2 3,cI j2 3,cI j2 3,trivial⟩,?_⟩
   refine qO rfl<|sApp (nb:=1) j2 wa 1 (RdT.blk (enc:=encB) (sz:=1) (xs:=[(cut%256)]) fR 1 0 rfl rfl rfl om) underlying74 (i:=Tryz.t5) kr fR fun _ _ _ _ xa k2=>nilO ⟨⟨cI k2 3,cI k2 3,cI k2 3,cI k2 3,cI k2 3,cI k2 3,cI k2 3,cI k2 3,trivial⟩,?_⟩
   refine qO rfl<|cX call36 (p26_check (F:=[]) (⟨1,64,64,1048576,1,4096,1048576,64⟩:Cfg) (⟨0,0,0⟩:Lod) (xs:=(([]++([84,70,1]++bytesOf (nJob a0.v)))++[(cut%256)])) (RdT.flat (xa.rdAt 1 (by rfl))) (Bytes.app (Bytes.app (fun _ h=>by cases h) (enc_bytes _)) (by intro b hb;simp at hb;omega)) (od) k2.flat) ?_
   rintro _ _ ⟨w3,_,_,_,_,_,e0_696,_,_,rfl,c5,_,ya,hz0_702,za⟩
   have ab:=za.unflat2;have hn_az_691:=c5.len;have hl_az_691:=c5.le
   have ha3:e0_696=4:=adm_cut ya (by unfold admP;decide) (by decide) (fun dj dc hd=>dec_more hwf (by simp only [List.nil_append];rfl) (by simp) hd (by simp only [List.nil_append,List.length_append,List.length_singleton];rw [List.length_append] at hln;omega))
   refine nilO ⟨dA,?_⟩
   refine qU [10]<|qU [11]<|qU [12]<|qU [13]<|qU [14]<|qO rfl<|sT ab 4 0 (.agg (encJob w3).toArray) (encJob w3) (encJob w3).toArray sizeOf28 fun _ bb=>nilO ⟨dA,?_⟩
   exact qU [17,18,19]<|qN<|tN<|⟨e0_696,alA,(bb.drops [0,0,0,0,0,0,0]),ha3⟩
  refine qO rfl<|sApp (nb:=1) s0 (OwnT.blk (enc:=encB) (sz:=1) (b:=b5) (c:=#[]) (E:=5) (xs:=[]) fR 0 rfl rfl rfl om) 0 (c0.rdAt 3 rfl) underlying74 (i:=Tryz.t5) kr fR fun _ _ _ _ eb l2=>nilO ⟨⟨cI l2 2,cI l2 2,cI l2 2,cI l2 2,cI l2 2,cI l2 2,cI l2 2,cI l2 2,trivial⟩,?_⟩
  refine qO rfl<|sBS l2 #[.int .u8 (cut%256)] runUnderlying74 sizeOf5 zeroValue5 fun _ _ m2=>nilO ⟨⟨cI m2 3,cI m2 3,cI m2 3,cI m2 3,cI m2 3,cI m2 3,cI m2 3,cI m2 3,trivial⟩,?_⟩
  refine qO rfl<|sApp (nb:=1) m2 eb 1 (RdT.blk (enc:=encB) (sz:=1) (xs:=[(cut%256)]) fR 1 0 rfl rfl rfl om) underlying74 (i:=Tryz.t5) kr fR fun _ _ _ _ fb n2=>nilO ⟨⟨cI n2 3,cI n2 3,cI n2 3,cI n2 3,cI n2 3,cI n2 3,cI n2 3,cI n2 3,trivial⟩,?_⟩
  refine qO rfl<|cX call36 (p26_check (F:=[]) (⟨1,64,64,1048576,1,4096,1048576,64⟩:Cfg) (⟨0,0,0⟩:Lod) (xs:=(([]++([84,70,1]++bytesOf (nJob a0.v)))++[(cut%256)])) (RdT.flat (fb.rdAt 1 (by rfl))) (Bytes.app (Bytes.app (fun _ h=>by cases h) (enc_bytes _)) (by intro b hb;simp at hb;omega)) (od) n2.flat) ?_
  rintro _ _ ⟨x3,_,_,_,_,_,e0_660,_,_,rfl,d5,_,gb,hz0_666,ib⟩
  have jb:=ib.unflat2;have hn_az_655:=d5.len;have hl_az_655:=d5.le
  have ha3:e0_660=4:=adm_cut gb (by unfold admP;decide) (by decide) (fun dj dc hd=>dec_more hwf (by simp only [List.nil_append];rfl) (by simp) hd (by simp only [List.nil_append,List.length_append,List.length_singleton];rw [List.length_append] at hln;omega))
  refine nilO ⟨dA,?_⟩
  refine qU [10]<|qU [11]<|qU [12]<|qU [13]<|qU [14]<|qO rfl<|sT jb 4 0 (.agg (encJob x3).toArray) (encJob x3) (encJob x3).toArray sizeOf28 fun _ kb=>nilO ⟨dA,?_⟩
  exact qU [17,18,19]<|qN<|tN<|⟨e0_660,alA,(kb.drops [0,0,0,0,0,0,0]),ha3⟩
 ·exfalso;omega
end Go.Proofs.YtdingplbadblpaaGreat
