import Derived.WalkKit
import Derived.Deep.Quiet
import Derived.KernelRfl
import Derived.Laws.BytesString
import Derived.Laws.Shifts
import Derived.Laws.IdiomStrings
import Derived.OpenShut
import Derived.Test.YtdingplbadblpaaGreatProg
import Derived.Shelf.SortG.Plain
import Derived.Shelf.SortG.SortNone
import Derived.Shelf.SlicesG.CompactI
import Derived.Test.YtdingplbadblpaaGreatR3Q3SpoilJ
namespace Go.Proofs.YtdingplbadblpaaGreat
open Go Go.E Go.Proofs.Tryz
set_option linter.all false
set_option maxRecDepth 100000
set_option maxHeartbeats 2000000
variable {W w:World} {H:Chunk} {F:List Chunk}
theorem low_13 {j:JobV} {tw th:Int} (h0:(shpV j).2.2=0) (ht:tileP tw th) (h:¬lowC j tw th=0):lowC j tw th=13:=by
  unfold lowC at*
  rw [if_pos h0,if_pos ht] at*
  split at h
  · exact absurd rfl h
  · rename_i h1;rw [if_neg h1]
theorem low_nil {j:JobV} {tw th:Int} (h:¬lowC j tw th=0):lowV j tw th=[]:=by unfold lowV;rw [if_neg h]
theorem low_len {j:JobV} {tw th:Int} (h0:(shpV j).2.2=0) (ht:tileP tw th):(lowV j tw th).length<=4096:=by
  by_cases h:lowC j tw th=0
  · have hg:=lay_ok (shp_ok h0) ht
    have h1:=tasks_sum hg (layV j tw th).od (fun _ h=>h)
    have h2:((layV j tw th).all.length:Int)=(layV j tw th).total:=h1
    unfold lowV;rw [if_pos h]
    unfold lowC at h
    rw [if_pos h0,if_pos ht] at h
    split at h<;>omega
  · rw [low_nil h];simp
theorem cel_bd {j:JobV} {tw th:Int} (h0:(shpV j).2.2=0) (ht:tileP tw th):0<=celV j tw th/\celV j tw th<=100000000:=by
  unfold celV
  split
  · have hg:=lay_ok (shp_ok h0) ht
    have h1:=cellsum_le hg (layV j tw th).sh.length (Nat.le_refl _)
    have h2:=histsum_le hg (layV j tw th).od.length (Nat.le_refl _)
    rw [List.take_of_length_le (Nat.le_refl _)] at h1 h2
    have hl:=hg.len;have hn:=hg.ni;have ho:=hg.ln
    have e:(layV j tw th).cells=((layV j tw th).sh.map fun m=>m.w*m.h).sum+((layV j tw th).od.map (histC (layV j tw th))).sum:=rfl
    omega
  · omega
def MaxS (c:Int) (l:List TaskV):Prop:=0<=c/\∀a:Int,0<=a->((l.any fun z=>decide (a<z.scratch))=true↔a<c)
theorem maxS_nil:MaxS 0 []:=⟨by omega,fun a h=>by simp;omega⟩
theorem maxS_snoc {c d:Int} {l:List TaskV} {z:TaskV} (h:MaxS c l) (hd:d=max c z.scratch):MaxS d (l++[z]):=by
  refine ⟨by have:=h.1;omega,fun a ha=>?_⟩
  rw [List.any_append,Bool.or_eq_true,h.2 a ha]
  simp;omega
theorem maxS_over {c:Cfg} {m:Int} {l:List TaskV} (h:MaxS m l) (h0:0<=c.arena):overA c l=true↔c.arena<m:=h.2 _ h0
theorem l26_predicate (W w:World) (H:Chunk) (F:List Chunk) (t:Option Addr) (nt kt:Nat) (xt:List Int) (ht:RdT Go.E.encI 1 [H] t nt kt xt) (hS:Sat W w (H::F)):
  Calls prog 9 #[.slice t nt kt] w fun e w'=>e= .returned (.bool true)/\Sat W w' (H::F):=by
 have hlt:=ht.le
 refine callsA 160 func9 rfl<|sR<|pu1<|zS<|pu1<|cX call11 (tape_new t nt kt hS) ?_
 rintro _ _ ⟨e1,rfl,f1⟩
 have s7:=ht.le
 refine pu1<|zS<|pu1<|cX call34 (tg_config (RdT.flat (ht.up 0 (by rfl))) om f1.flat1) ?_
 rintro _ _ ⟨a0,rfl,g1,_,_,h1⟩
 have i1:=h1.unflat1
 have hcf0:=g1;unfold cfgP at hcf0
 refine pu1<|cX call13 (tape_next (RdT.flat (ht.up 0 (by rfl))) om i1.flat1 9 om) ?_
 rintro _ _ ⟨g0,rfl,_,_,_,j1⟩
 have k1:=j1.unflat1
 refine pu1<|cX call13 (tape_next (RdT.flat (ht.up 0 (by rfl))) om k1.flat1 60 om) ?_
 rintro _ _ ⟨e0,rfl,_,_,_,l1⟩
 have m1:=l1.unflat1
 refine pu1<|cX call13 (tape_next (RdT.flat (ht.up 0 (by rfl))) om m1.flat1 400 om) ?_
 rintro _ _ ⟨f0,rfl,_,_,_,n1⟩
 have o1:=n1.unflat1
 refine pu2<|cX call35 (l26_offer (RdT.flat (ht.up 0 (by rfl))) om o1.flat1) ?_
 rintro _ _ ⟨q1,r1,s1,u0,t1,rfl,j0,v0,_,_,u1⟩
 have v1:=u1.unflat2
 have hn_az_35:=j0.len;have hl_az_35:=j0.le
 refine sAlloc v1 zeroValue70 fun w0 _ w1=>sAlloc w1 zeroValue73 fun x0 _ x1=>?_
 refine sT x1 1 0 (.agg (encCfg a0).toArray) (encCfg a0) (encCfg a0).toArray sizeOf70 fun _ y1=>sT y1 0 0 (.agg #[I g0,I e0,I f0]) [I g0,I e0,I f0] #[I g0,I e0,I f0] sizeOf73 fun _ z1=>pu1<|zS<|pu1<|sBS z1 #[I 16,I 64,I 512,I 4096] runUnderlying22 sizeOf3 zeroValue3 fun a2 _ b2=>?_
 have c2:=(b2.pick 3 rfl)
 refine cX call38 (tape_pick (RdT.flat (ht.up 4 (by rfl))) om c2.flat1 (RdT.flat (RdT.blk (enc:=Go.E.encI) (sz:=1) (xs:=[16,64,512,4096]) (fun _=>(by rfl)) 4 0 rfl rfl rfl om)) om om) ?_
 rintro _ _ ⟨c0,rfl,d2,e2,_,f2⟩
 have g2:=f2.unflat1
 have s8:(c0:Int)=16\/(c0:Int)=64\/(c0:Int)=512\/(c0:Int)=4096:=by simpa using d2
 refine pu1<|tW g2 3 3 (I c0) sizeOf3 fun _ q0=>zS<|lA q0 3 0 8 (isAgg70 _) (sizeOf70 _)<|lA q0 2 0 3 (isAgg73 _) (sizeOf73 _)<|pu1<|cX call36 (p26_check (F:=[]) ({a0 with arena:=c0}:Cfg) (⟨g0,e0,f0⟩:Lod) (xs:=u0) (RdT.flat (j0.up 4 (by rfl))) v0 (od) q0.flat) ?_
 rintro _ _ ⟨k0,_,_,_,_,_,e0_75,h2,i2,rfl,y0,_,z0,hz0_81,j2⟩
 have k2:=j2.unflat2;have hn_az_70:=y0.len;have hl_az_70:=y0.le
 have hpp:admP ({a0 with arena:=c0}:Cfg) (⟨g0,e0,f0⟩:Lod):=⟨of_cfg (by unfold cfgP at*;dsimp only;omega),by dsimp only;omega⟩
 refine pu5<|sAlloc k2 zeroValue28 fun l2 _ m2=>?_
 refine sT m2 0 0 (.agg (encJob k0).toArray) (encJob k0) (encJob k0).toArray sizeOf28 fun _ l0=>pu3<|zQ<|pu1<|sL l0 5 0 (I g0) (isAgg3 _)<|pu1<|sL l0 6 7 (I a0.jobs) (isAgg3 _)<|pu1<|nT<|cD (g0>=a0.jobs) (fun n2=>?_) (fun n2=>?_)
 ·refine seqE ?_
  have he:e0_75=15:=z0.full hpp (by dsimp only;omega)
  refine rE<|pu3 ?_
  have o2:(e0_75:Int)=15:=by omega
  refine sFix 54 _ true (beq_iff_eq.2 o2)<|gY<|cR call37 (l26_sane l0.flat) fun _ q2=>pu2<|zR<|retT [.bool true] ?_
  have r2:=(q2.pick 8 rfl)
  have s2:=r2.dropAt 1 rfl
  have t2:=s2.dropAt 1 rfl
  have u2:=t2.dropAt 1 rfl
  have v2:=u2.dropAt 1 rfl
  have w2:=v2.dropAt 1 rfl
  have x2:=w2.dropAt 1 rfl
  have y2:=x2.dropAt 1 rfl
  exact ⟨rfl,(y2.dropAt 1 rfl)⟩
 refine kS<|pu1<|sF #[.slice q1 r1 s1] call39 (Calls.mono (codec_decode W _ _ [] _ _ _ u0 (RdT.flat (j0.up 7 (by rfl))) v0 l0.flat) ?_)
 rintro _ _ ⟨b0,a3,r0,rfl,m0,a1,b1⟩
 refine ⟨_,rfl,?_⟩
 have b3:=b1.unflat1;clear b1
 refine pu3<|sAlloc b3 zeroValue28 fun c3 _ d3=>?_
 refine sT d3 0 0 (.agg (encJob b0).toArray) (encJob b0) (encJob b0).toArray sizeOf28 fun _ s0=>pu1<|nT<|seqE<|seqE ?_
 have hdb:=dec_bd a1 m0;have hE:=(z0.dec hpp (by dsimp only;omega) a1).1;unfold admD at hE;dsimp only at hE
 refine rE<|pu2<|nT<|cN r0 0 (fun e3=>?_) (fun e3=>?_)
 rotate_left
 ·refine seqE ?_
  have he:e0_75=r0:=by rw [hE,if_pos om]
  refine rE<|pu4 ?_
  have f3:(e0_75:Int)=r0:=by omega
  refine sFix 67 _ true (beq_iff_eq.2 f3)<|gY<|cR call37 (l26_sane s0.flat) fun _ g3=>pu2<|zR<|retT [.bool true] ?_
  have h3:=(g3.pick 10 rfl)
  have i3:=h3.dropAt 1 rfl
  have j3:=i3.dropAt 1 rfl
  have k3:=j3.dropAt 1 rfl
  have l3:=k3.dropAt 1 rfl
  have m3:=l3.dropAt 1 rfl
  have n3:=m3.dropAt 1 rfl
  have o3:=n3.dropAt 1 rfl
  have p3:=o3.dropAt 1 rfl
  have q3:=p3.dropAt 1 rfl
  exact ⟨rfl,(q3.dropAt 1 rfl)⟩
 refine kT<|seqE<|sR<|lA s0 0 0 4 (isAgg28 _) (sizeOf28 _)<|cR call40 (p17_check b0 (m0.of_mem (mem_flat1 1 (by rfl))) (od) s0.flat) fun _ i0=>pu5<|zS<|pu2<|nT<|cN ((shpV b0.v).2.2) 0 (fun s3=>?_) (fun s3=>?_)
 rotate_left
 ·refine seqE ?_
  have he:e0_75=(shpV b0.v).2.2:=by rw [hE,if_neg om,if_pos om]
  refine rE<|pu4 ?_
  have t3:(e0_75:Int)=((shpV b0.v).2.2):=by omega
  refine sFix 80 _ true (beq_iff_eq.2 t3)<|gY<|cR call37 (l26_sane i0.flat) fun _ u3=>pu2<|zR<|retT [.bool true] ?_
  have v3:=(u3.pick 10 rfl)
  have w3:=v3.dropAt 1 rfl
  have x3:=w3.dropAt 1 rfl
  have y3:=x3.dropAt 1 rfl
  have z3:=y3.dropAt 1 rfl
  have a4:=z3.dropAt 1 rfl
  have b4:=a4.dropAt 1 rfl
  have c4:=b4.dropAt 1 rfl
  have d4:=c4.dropAt 1 rfl
  have e4:=d4.dropAt 1 rfl
  exact ⟨rfl,(e4.dropAt 1 rfl)⟩
 refine kS<|lA i0 0 0 4 (isAgg28 _) (sizeOf28 _)<|pu1<|sL i0 8 1 (I a0.tileW) (isAgg3 _)<|pu1<|sL i0 8 2 (I a0.tileH) (isAgg3 _)<|cX call16 (p20_low (F:=[]) b0 a0.tileW a0.tileH (m0.of_mem (mem_flat1 1 (by rfl))) om i0.flat) ?_
 rintro _ _ ⟨g4,h0,h4,i4,j4,k4,rfl,n0,_,d1,l4⟩
 have o0:=l4.unflat2;have hn_az_126:=n0.len;have hl_az_126:=n0.le
 have hzl:((lowV b0.v a0.tileW a0.tileH).length:Int)=h0:=by rw [<-d1,List.length_map];have h:=n0.len;omega
 refine pu5<|zS<|lA o0 2 0 4 (isAgg28 _) (sizeOf28 _)<|pu1<|sL o0 10 1 (I a0.tileW) (isAgg3 _)<|pu1<|sL o0 10 2 (I a0.tileH) (isAgg3 _)<|cX call20 (p20_cells (F:=[]) b0 a0.tileW a0.tileH (m0.of_mem (mem_flat1 3 (by rfl))) om o0.flat) ?_
 rintro _ _ ⟨rfl,m4⟩
 have n4:=m4.unflat
 refine pu5<|nT<|seqE ?_
 have htp:tileP a0.tileW a0.tileH:=by unfold tileP;omega
 have hll:=low_len (show (shpV b0.v).2.2=0 by omega) htp;have hcl:=cel_bd (show (shpV b0.v).2.2=0 by omega) htp
 refine rE<|pu1<|zQ<|pu1<|nT<|blockE ?_
 refine loopA (γ:=Nat×Int) (fun ⟨i,c1⟩=>[(4,Pt w0 0),(5,Pt x0 0),(10,I e0_75),(15, .slice g4 h0 h4),(16,I (lowC b0.v a0.tileW a0.tileH)),(17,I (celV b0.v a0.tileW a0.tileH)),(20,I (i:Int)),(19,I c1)]) (fun ⟨i,c1⟩ w=>Sat W w (j4::k4::[(c3, .cells (encJob b0).toArray 28 (0,0))]::a3::[(l2, .cells (encJob k0).toArray 28 (0,0))]::h2::i2::[(e1, .cells #[.slice t nt kt,I e2] 85 (0,0))]::[(a2, .cells #[I 16,I 64,I 512,I 4096] 3 (0,0))]::[(x0, .cells #[I g0,I e0,I f0] 73 (0,0))]::[(w0, .cells (encCfg {a0 with arena:=c0}).toArray 70 (0,0))]::t1::H::F)/\i<=h0/\(MaxS c1 ((i4.map Task.v).take i))) (fun ⟨i,c1⟩=>h0-i) (0,0) ⟨n4,om,maxS_nil⟩ ?_
 rintro ⟨i,c1⟩ ρ _ ⟨d0,hi,hM⟩
 refine seqE<|sR<|pu4<|nT<|cD ((i:Int)<(h0:Int)) (fun o4=>?_) (fun o4=>?_)
 ·exact kT<|seqE<|blockE<|rE<|pu3<|sIdxO n0 (i:Int) i runUnderlying39 sizeOf46 fun p0 _ _ p4 q4 _=>pu1<|sLp d0 (q4.up 0 rfl) 8 (I p0.scratch) (isAgg3 _)<|stepY (I (max c1 p0.scratch)) rfl rfl (Y_max2 c1 p0.scratch rfl rfl kr kr)<|pu1<|nB<|rE<|pu1<|sAdd (i:Int) 1<|pu1<|nT<|⟨(i+1,(max c1 p0.scratch)),od,alA,d0,om,(by rw [take_succ_at (map_at (f:=Task.v) p4)];exact maxS_snoc hM rfl)⟩
 refine exitE<|xB<|tN<|seqE<|blockE<|seqE ?_
 have hmx:MaxS c1 (lowV b0.v a0.tileW a0.tileH):=by rw [<-d1];have h:=hM;rw [List.take_of_length_le (by rw [List.length_map];omega)] at h;exact h
 rw [if_neg om,if_neg om] at hE
 refine rE<|pu3<|sN 117 (lowC b0.v a0.tileW a0.tileH) 0 (fun t0=>?_) (fun t0=>?_)
 rotate_left
 ·refine pu10<|nT<|cTt<|seqE ?_
  have he:e0_75=13:=by rw [hE,if_pos t0];exact low_13 om htp t0
  refine rE<|pu3 ?_
  have r4:(e0_75:Int)=13:=by omega
  refine sFix 129 _ true (beq_iff_eq.2 r4)<|gY<|cR call37 (l26_sane d0.flat) fun _ s4=>pu2<|zB<|retT [.bool true] ?_
  have t4:=(s4.pick 12 rfl)
  have u4:=t4.dropAt 1 rfl
  have v4:=u4.dropAt 1 rfl
  have w4:=v4.dropAt 1 rfl
  have x4:=w4.dropAt 1 rfl
  have y4:=x4.dropAt 1 rfl
  have z4:=y4.dropAt 1 rfl
  have a5:=z4.dropAt 1 rfl
  have b5:=a5.dropAt 1 rfl
  have c5:=b5.dropAt 1 rfl
  have d5:=c5.dropAt 1 rfl
  have e5:=d5.dropAt 1 rfl
  exact ⟨rfl,(e5.dropAt 1 rfl)⟩
 refine pu1<|gY<|sL d0 9 1 (I e0) (isAgg3 _)<|pu2<|gY<|sAdd e0 (h0:Int)<|pu1<|gY<|sL d0 10 5 (I a0.tasks) (isAgg3 _)<|pu3<|nT<|cD ((e0+(h0:Int))>a0.tasks) (fun g5=>?_) (fun g5=>?_)
 ·refine seqE ?_
  have he:e0_75=13:=by rw [hE,if_neg om];unfold admT;rw [if_pos (by dsimp only;omega)]
  refine rE<|pu3 ?_
  have h5:(e0_75:Int)=13:=by omega
  refine sFix 129 _ true (beq_iff_eq.2 h5)<|gY<|cR call37 (l26_sane d0.flat) fun _ i5=>pu2<|zB<|retT [.bool true] ?_
  have j5:=(i5.pick 12 rfl)
  have k5:=j5.dropAt 1 rfl
  have l5:=k5.dropAt 1 rfl
  have m5:=l5.dropAt 1 rfl
  have n5:=m5.dropAt 1 rfl
  have o5:=n5.dropAt 1 rfl
  have p5:=o5.dropAt 1 rfl
  have q5:=p5.dropAt 1 rfl
  have r5:=q5.dropAt 1 rfl
  have s5:=r5.dropAt 1 rfl
  have t5:=s5.dropAt 1 rfl
  have u5:=t5.dropAt 1 rfl
  exact ⟨rfl,(u5.dropAt 1 rfl)⟩
 refine sR<|pu2<|sL d0 10 3 (I c0) (isAgg3 _)<|pu2<|nT<|cD (c1>c0) (fun w5=>?_) (fun w5=>?_)
 ·refine seqE ?_
  have he:e0_75=12:=by rw [hE,if_neg om];unfold admT;rw [if_neg (by dsimp only;omega),if_pos ((maxS_over (c:=({a0 with arena:=c0}:Cfg)) hmx (by unfold cfgP at*;dsimp only;omega)).2 (by dsimp only;omega))]
  refine rE<|pu3 ?_
  have x5:(e0_75:Int)=12:=by omega
  refine sFix 139 _ true (beq_iff_eq.2 x5)<|gY<|cR call37 (l26_sane d0.flat) fun _ y5=>pu2<|zB<|retT [.bool true] ?_
  have z5:=(y5.pick 12 rfl)
  have a6:=z5.dropAt 1 rfl
  have b6:=a6.dropAt 1 rfl
  have c6:=b6.dropAt 1 rfl
  have d6:=c6.dropAt 1 rfl
  have e6:=d6.dropAt 1 rfl
  have f6:=e6.dropAt 1 rfl
  have g6:=f6.dropAt 1 rfl
  have h6:=g6.dropAt 1 rfl
  have i6:=h6.dropAt 1 rfl
  have j6:=i6.dropAt 1 rfl
  have k6:=j6.dropAt 1 rfl
  exact ⟨rfl,(k6.dropAt 1 rfl)⟩
 refine sR<|pu1<|sL d0 9 2 (I f0) (isAgg3 _)<|pu1<|sAdd f0 (celV b0.v a0.tileW a0.tileH)<|pu1<|sL d0 10 6 (I a0.cells) (isAgg3 _)<|pu2<|nT<|cD ((f0+(celV b0.v a0.tileW a0.tileH))>a0.cells) (fun m6=>?_) (fun m6=>?_)
 ·refine seqE ?_
  have he:e0_75=14:=by rw [hE,if_neg om];unfold admT;rw [if_neg (by dsimp only;omega),if_neg (fun h=>absurd ((maxS_over (c:=({a0 with arena:=c0}:Cfg)) hmx (by unfold cfgP at*;dsimp only;omega)).1 h) (by dsimp only;omega)),if_pos (by dsimp only;omega)]
  refine rE<|pu3 ?_
  have n6:(e0_75:Int)=14:=by omega
  refine sFix 152 _ true (beq_iff_eq.2 n6)<|gY<|cR call37 (l26_sane d0.flat) fun _ o6=>pu2<|zB<|retT [.bool true] ?_
  have p6:=(o6.pick 12 rfl)
  have q6:=p6.dropAt 1 rfl
  have r6:=q6.dropAt 1 rfl
  have s6:=r6.dropAt 1 rfl
  have t6:=s6.dropAt 1 rfl
  have u6:=t6.dropAt 1 rfl
  have v6:=u6.dropAt 1 rfl
  have w6:=v6.dropAt 1 rfl
  have x6:=w6.dropAt 1 rfl
  have y6:=x6.dropAt 1 rfl
  have z6:=y6.dropAt 1 rfl
  have a7:=z6.dropAt 1 rfl
  exact ⟨rfl,(a7.dropAt 1 rfl)⟩
 refine skipE<|bN<|tN<|seqE ?_
 have he:e0_75=0:=by rw [hE,if_neg om];unfold admT;rw [if_neg (by dsimp only;omega),if_neg (fun h=>absurd ((maxS_over (c:=({a0 with arena:=c0}:Cfg)) hmx (by unfold cfgP at*;dsimp only;omega)).1 h) (by dsimp only;omega)),if_neg (by dsimp only;omega)]
 refine rE<|pu3 ?_
 have c7:(e0_75:Int)=0:=by omega
 refine sFix 157 _ true (beq_iff_eq.2 c7)<|gY<|cR call37 (l26_sane d0.flat) fun _ d7=>pu2<|zE<|retT [.bool true] ?_
 have e7:=(d7.pick 12 rfl)
 have f7:=e7.dropAt 1 rfl
 have g7:=f7.dropAt 1 rfl
 have h7:=g7.dropAt 1 rfl
 have i7:=h7.dropAt 1 rfl
 have j7:=i7.dropAt 1 rfl
 have k7:=j7.dropAt 1 rfl
 have l7:=k7.dropAt 1 rfl
 have m7:=l7.dropAt 1 rfl
 have n7:=m7.dropAt 1 rfl
 have o7:=n7.dropAt 1 rfl
 have p7:=o7.dropAt 1 rfl
 exact ⟨rfl,(p7.dropAt 1 rfl)⟩
end Go.Proofs.YtdingplbadblpaaGreat
