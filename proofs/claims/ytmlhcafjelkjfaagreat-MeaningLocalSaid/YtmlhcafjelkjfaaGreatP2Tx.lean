import Derived.Test.YtmlhcafjelkjfaaGreatP2Ab
import Derived.WalkKit
import Derived.Deep.Quiet
import Derived.KernelRfl
import Derived.Laws.BytesString
import Derived.Laws.Shifts
import Derived.Laws.IdiomStrings
import Derived.Test.YtmlhcafjelkjfaaGreatProg
import Derived.Laws.IdiomRangeMap
import Derived.Test.YtmlhcafjelkjfaaGreatP2TJob
import Derived.Test.YtmlhcafjelkjfaaGreatP2Spoil
namespace Go.Proofs.YtmlhcafjelkjfaaGreat
open Go Go.E Go.Proofs.Tryz
set_option linter.all false
set_option maxRecDepth 100000
set_option maxHeartbeats 2000000
variable {W w:World} {H:Chunk} {F:List Chunk}
theorem ord_good {I:List PlaneV} {S:List StageV} {p:Int} (h:Good I S p) (h1:1<=S.length):chkCode (jobOf I S p)=0/\ordV (jobOf I S p)=(upFrom I.length S.length,0):=by
 have hchk:chkCode (jobOf I S p)=0:=by
  unfold chkCode jobOf
  dsimp only
  have hn:=h.ni;have hs:=h.ns;have hp:=h.pr
  rw [if_pos (by simp only [List.length_singleton];omega),if_pos hp,if_pos,if_pos]
  ·unfold inR;simp;omega
  ·rw [List.all_eq_true]
   intro s hs2
   obtain ⟨m,hm⟩:=List.getElem?_of_mem hs2
   unfold inR
   rw [List.all_eq_true]
   intro x hx
   have:=h.od m s hm x hx
   have hml:m<S.length:=(List.getElem?_eq_some_iff.1 hm).1
   exact decide_eq_true om
 refine ⟨hchk,?_⟩
 unfold ordV
 rw [if_pos hchk]
 have:=ordGo_up (ni:=I.length) om h.od S.length 0 om
 dsimp only [jobOf]
 rw [show ([]:List Int)=upFrom I.length 0 from rfl,this]
theorem stgAt_app {ss:List StageV} {s:StageV} {ni n:Int} (h0:ni<=n) (h:n<ni+ss.length):stgAt (ss++[s]) ni n=stgAt ss ni n:=by
  unfold stgAt;rw [List.getElem?_append_left (by omega)]
theorem stgAt_last {ss:List StageV} {s:StageV} {ni:Int}:stgAt (ss++[s]) ni (ni+ss.length)=s:=by
  unfold stgAt;rw [show (ni+(ss.length:Int)-ni).toNat=ss.length by omega,List.getElem?_append_right (Nat.le_refl _),Nat.sub_self];rfl
theorem stgAt_mem {ss:List StageV} {ni n:Int} (h0:ni<=n) (h:n<ni+ss.length):ss[(n-ni).toNat]?=some (stgAt ss ni n):=by
  unfold stgAt;rw [List.getElem?_eq_getElem (by omega)];rfl
theorem plAt_app {l z:List PlaneV} {i:Int} (h0:0<=i) (h:i<l.length):plAt (l++z) i=plAt l i:=by unfold plAt;rw [List.getElem?_append_left (by omega)]
section
variable {ni:Int} {S:List StageV} {s:StageV} (hn:0<=ni) (hs:∀t∈S,∀x∈srcs t,0<=x/\x<ni+S.length)
include hn hs
theorem shpGo_more (z : Shape) : ∀ (l : List Int) (out : List Shape), (out.length : Int) = ni + S.length -> (∀ n ∈ l, ni <= n /\ n < ni + S.length) -> (shpGo ni S l out).2.2 = 0 ->
  ∀ m, shpGo ni (S ++ [s]) (l ++ m) (out ++ [z]) = shpGo ni (S ++ [s]) m ((shpGo ni S l out).1 ++ [z])
 | [], out, _, _, _, m => rfl
 | n :: l, out, hl, hr, hz, m => by
  have hn1 := hr n (by simp)
  have hst : shpStep ni (S ++ [s]) n (out ++ [z]) = shpStep ni S n out := by
   have hm := List.mem_of_getElem? (stgAt_mem hn1.1 hn1.2)
   have ha := hs _ hm _ (srcs_a _)
   unfold shpStep
   rw [stgAt_app hn1.1 hn1.2, shpAt_app ha.1 om]
   by_cases h2 : twoP (stgAt S ni n)
   ·have hb := hs _ hm _ (srcs_b h2)
    rw [if_pos h2, if_pos h2, shpAt_app hb.1 om]
   ·rw [if_neg h2, if_neg h2]
  have eA : shpGo ni (S ++ [s]) (n :: l ++ m) (out ++ [z]) = if (shpStep ni (S ++ [s]) n (out ++ [z])).2 = 0 then shpGo ni (S ++ [s]) (l ++ m) ((out ++ [z]).set n.toNat (shpStep ni (S ++ [s]) n (out ++ [z])).1) else ([], n, (shpStep ni (S ++ [s]) n (out ++ [z])).2) := rfl
  have eB : shpGo ni S (n :: l) out = if (shpStep ni S n out).2 = 0 then shpGo ni S l (out.set n.toNat (shpStep ni S n out).1) else ([], n, (shpStep ni S n out).2) := rfl
  rw [eB] at hz
  rw [eA, eB, hst]
  split at hz
  ·rename_i hc
   rw [if_pos hc, if_pos hc, List.set_append_left _ _ om]
   exact shpGo_more z l _ (by rw [List.length_set]; exact hl) (fun k hk => hr k (by simp [hk])) hz m
  ·rename_i hc; exact absurd hz hc
theorem meanG_more (z : PlaneV) : ∀ (l : List Int) (out : List PlaneV), (out.length : Int) = ni + S.length -> (∀ n ∈ l, ni <= n /\ n < ni + S.length) ->
  ∀ m, meanG ni (S ++ [s]) (l ++ m) (out ++ [z]) = meanG ni (S ++ [s]) m (meanG ni S l out ++ [z])
 | [], out, _, _, m => rfl
 | n :: l, out, hl, hr, m => by
  have hn1 := hr n (by simp)
  have hst : meanS ni (S ++ [s]) n (out ++ [z]) = meanS ni S n out := by
   have hm := List.mem_of_getElem? (stgAt_mem hn1.1 hn1.2)
   have ha := hs _ hm _ (srcs_a _)
   unfold meanS srcB
   rw [stgAt_app hn1.1 hn1.2, plAt_app ha.1 om]
   by_cases h2 : twoP (stgAt S ni n)
   ·have hb := hs _ hm _ (srcs_b h2)
    rw [if_pos h2, if_pos h2, plAt_app hb.1 om]
   ·rw [if_neg h2, if_neg h2]
  have ih := meanG_more z l (out.set n.toNat (meanS ni S n out).1) (by rw [List.length_set]; exact hl) (fun k hk => hr k (by simp [hk])) m
  unfold meanG at ih ⊢
  rw [List.cons_append, List.foldl_cons, List.foldl_cons, hst, List.set_append_left _ _ om]
  exact ih
end
theorem more_law {I:List PlaneV} {S:List StageV} {p:Int} {l0:List Shape} (hg:Good I S p) (hrun:runS (I.map shpOf) S=some l0) (h1:1<=S.length) (h7:S.length<=7) {s:StageV} (ht:¬twoP s) (ha:0<=s.a/\s.a<(I.length:Int)+S.length)
  {j k:JobV} (hji:j.inputs=I) (hjs:j.stages=S) (hjp:j.priority=p) (hjo:1<=j.outputs.length/\j.outputs.length<=16) (hjr:inR (I.length+S.length) j.outputs=true)
  (hki:k.inputs=I) (hks:k.stages=S++[s]) (hkp:k.priority=p) (hko:k.outputs=j.outputs):
  (shpV j).2.2=0/\(meanV j).length=I.length+S.length/\planeOK (plAt (meanV j) s.a)=true/\(shpV k).2.2=(stgT s (plAt (meanV j) s.a) zPl).2/\((shpV k).2.2=0->meanV k=meanV j++[(stgT s (plAt (meanV j) s.a) zPl).1]):=by
 have hsl:srcs s=[s.a]:=by unfold srcs;rw [if_neg ht]
 have hg2:=hg.snoc (s:=s) om (by rw [hsl];intro x hx;rw [List.mem_singleton.1 hx];exact ha)
 have h2l:(S++[s]).length=S.length+1:=by simp
 obtain ⟨hc1,ho1⟩:=ord_good hg h1
 obtain ⟨hc2,ho2⟩:=ord_good hg2 om
 have hjr2:∀x∈j.outputs,0<=x/\x<(I.length:Int)+S.length:=by
  unfold inR at hjr;rw [List.all_eq_true] at hjr
  exact fun x hx=>of_decide_eq_true (hjr x hx)
 have hcj:chkCode j=0:=chk_like hc1 hji (by rw [hjs];rfl) (by rw [hjp];exact hg.pr) hjo hjr2
 have hck:chkCode k=0:=chk_like hc2 hki (by rw [hks];rfl) (by rw [hkp];exact hg.pr) (by rw [hko];exact hjo) (by rw [hko];intro x hx;have:=hjr2 x hx;show 0<=x/\x<(I.length:Int)+((S++[s]).length:Int);rw [h2l];push_cast;omega)
 have e1:=mean_nb hc1 hcj hji (by rw [hjs];rfl)
 have e2:=mean_nb hc2 hck hki (by rw [hks];rfl)
 have hz1:(shpV (jobOf I S p)).2.2=0:=by rw [(shp_run hg h1).1 l0 hrun]
 have hso:=shp_ok hz1
 have hmo:=mean_ok hz1
 have hsv1:shpV (jobOf I S p)=shpGo I.length S (upFrom I.length S.length) (I.map shpOf++List.replicate S.length ⟨0,0,0⟩):=by
  unfold shpV
  rw [ho1,if_pos rfl]
  show (if I.all planeOK=true then _ else _)=_
  rw [if_pos hg.pl];rfl
 have hsv2:shpV (jobOf I (S++[s]) p)=shpGo I.length (S++[s]) (upFrom I.length S.length++[(I.length:Int)+S.length]) ((I.map shpOf++List.replicate S.length ⟨0,0,0⟩)++[⟨0,0,0⟩]):=by
  unfold shpV
  rw [ho2,if_pos rfl]
  show (if I.all planeOK=true then shpGo I.length (S++[s]) (upFrom I.length (S++[s]).length) (I.map shpOf++List.replicate (S++[s]).length ⟨0,0,0⟩) else _)=_
  rw [if_pos hg.pl,h2l,<-upFrom_snoc,List.append_assoc,show List.replicate S.length (⟨0,0,0⟩:Shape)++[⟨0,0,0⟩]=List.replicate (S.length+1) ⟨0,0,0⟩ from (List.replicate_succ' ..).symm]
 have hsr:∀t∈S,∀x∈srcs t,0<=x/\x<(I.length:Int)+S.length:=(chk_all hc1).1
 have hup:∀n∈upFrom (I.length:Int) S.length,(I.length:Int)<=n/\n<(I.length:Int)+S.length:=fun n hn=>mem_upFrom.1 hn
 have hlz:((I.map shpOf++List.replicate S.length (⟨0,0,0⟩:Shape)).length:Int)=(I.length:Int)+S.length:=by simp
 have hsl1:((shpV (jobOf I S p)).1.length:Int)=(I.length:Int)+S.length:=by rw [hso.len];show ((I.length+S.length:Nat):Int)=_;push_cast;rfl
 rw [shpGo_more om hsr _ _ _ hlz hup (by rw [<-hsv1];exact hz1),<-hsv1] at hsv2
 have hst:shpStep I.length (S++[s]) ((I.length:Int)+S.length) ((shpV (jobOf I S p)).1++[⟨0,0,0⟩])=ofV s (shpOf (plAt (meanV (jobOf I S p)) s.a)) (shpOf zPl):=by
  unfold shpStep
  rw [stgAt_last,if_neg ht,shpAt_app ha.1 om,(hmo.2 s.a ha.1 ha.2).2]
  rfl
 have hpo:=(hmo.2 s.a ha.1 ha.2).1
 have hms:meanV j=meanV (jobOf I S p):=e1.2.2
 have hcode:(shpV k).2.2=(ofV s (shpOf (plAt (meanV (jobOf I S p)) s.a)) (shpOf zPl)).2:=by
  rw [e2.2.1,hsv2]
  unfold shpGo
  rw [hst]
  split
  ·rename_i h;rw [h];rfl
  ·rfl
 have hstg:(stgT s (plAt (meanV (jobOf I S p)) s.a) zPl).2=(ofV s (shpOf (plAt (meanV (jobOf I S p)) s.a)) (shpOf zPl)).2:=by
  by_cases hc:(ofV s (shpOf (plAt (meanV (jobOf I S p)) s.a)) (shpOf zPl)).2=0
  ·rw [(stg_ok hpo (fun h=>absurd h ht) hc).1,hc]
  ·rw [stg_c ⟨hpo,fun h=>absurd h ht⟩ hc]
 rw [hms]
 refine ⟨by rw [e1.2.1];exact hz1,hmo.1,hpo,by rw [hcode,hstg],fun hz=>?_⟩
 have hz2:(shpV (jobOf I (S++[s]) p)).2.2=0:=by rw [<-e2.2.1];exact hz
 have hm1:meanV (jobOf I S p)=meanG I.length S (upFrom I.length S.length) (I++List.replicate S.length zPl):=by
  unfold meanV;rw [if_pos hz1,ho1];rfl
 have hm2:meanV (jobOf I (S++[s]) p)=meanG I.length (S++[s]) (upFrom I.length S.length++[(I.length:Int)+S.length]) ((I++List.replicate S.length zPl)++[zPl]):=by
  unfold meanV
  rw [if_pos hz2,ho2]
  show meanG _ _ (upFrom I.length (S++[s]).length) (I++List.replicate (S++[s]).length zPl)=_
  rw [h2l,<-upFrom_snoc,List.append_assoc,show List.replicate S.length zPl++[zPl]=List.replicate (S.length+1) zPl from (List.replicate_succ' ..).symm]
  rfl
 rw [meanG_more om hsr _ _ _ (by simp) hup,<-hm1] at hm2
 have hln:(meanV (jobOf I S p)).length=I.length+S.length:=hmo.1
 rw [e2.2.2,hm2]
 unfold meanG
 rw [List.foldl_cons,List.foldl_nil,show ((I.length:Int)+(S.length:Int)).toNat=(meanV (jobOf I S p)).length by omega,List.set_append_right _ _ (Nat.le_refl _),Nat.sub_self,List.set_cons_zero]
 congr 2
 unfold meanS srcB
 rw [stgAt_last,if_neg ht,plAt_app ha.1 om]
theorem more_code {s:StageV} {x:Shape} (hx:szP x) (hf:fieldsP s) (hk:s.kind=5\/(s.kind=4/\1<=s.bins/\s.bins<=128)) (hc:¬(ofV s x (shpOf zPl)).2=0):(ofV s x (shpOf zPl)).2=11:=by
 have ht:¬twoP s:=by unfold twoP;omega
 unfold ofV at hc⊢
 rw [if_pos hf,if_pos ⟨hx, .inl ht⟩,if_pos (.inl om)] at hc⊢
 split at hc
 ·simp at hc
 ·rename_i h
  rw [if_neg h]
  unfold kernelV at h⊢
  rw [if_neg om,if_neg om,if_neg om] at h⊢
  split at h
  ·rename_i h4
   rw [if_pos om] at h;simp at h
  ·rename_i h4
   rw [if_neg h4]
   rw [if_pos om] at h⊢
   split at h
   ·simp at h
   ·rename_i h6;rw [if_neg h6]
theorem r18_same (aa : Option Addr) (na ka : Nat) (a : List Plane) (ab : Option Addr) (nb kb : Nat) (b : List Plane) (ha : RdT encPlane 4 [H] aa na ka a) (da : ∀ z ∈ a, Plane.Ok [H] z) (hb : RdT encPlane 4 [H] ab nb kb b) (db : ∀ z ∈ b, Plane.Ok [H] z) (hS : Sat W w (H :: F)) :
  Ro prog 20 #[.slice aa na ka, .slice ab nb kb] (.bool (decide (a.map Plane.v = b.map Plane.v))) W w (H :: F) := by
 have hl_a := ha.le; have hn_a := ha.len
 have hl_b := hb.le; have hn_b := hb.len
 refine callsA 27 func20 rfl <| sR <| pu1 <| zQ <| pu5 <| nT <| cN (na : Int) (nb : Int) (fun m0 => ?_) (fun m0 => ?_)
 rotate_left
 ·refine sR <| pu1 <| zR <| retT [.bool false] ?_
  exact ⟨by rw [decide_eq_false (fun h => by have h2 := congrArg List.length h; rw [List.length_map, List.length_map] at h2; omega)]; rfl, hS⟩
 refine kT <| seqE <| sR <| pu1 <| nT <| blockE <| loopA (γ := Nat) (fun i => [(0, .slice aa na ka), (1, .slice ab nb kb), (5, I (i : Int))]) (fun i w => Sat W w (H :: F) /\ i <= na /\ ((a.map Plane.v).take i = (b.map Plane.v).take i)) (fun i => na - i) 0 ⟨hS, om, by simp⟩ ?_
 rintro i ρ _ ⟨a0, hi, hE⟩
 refine seqE <| sR <| pu4 <| nT <| cD ((i : Int) < (na : Int)) (fun n0 => ?_) (fun n0 => ?_)
 rotate_left
 ·exact exitE <| xB <| tN <| sR <| pu1 <| zE <| retT [.bool true] <| ⟨by rw [decide_eq_true (eq_of_take hE (by rw [List.length_map]; omega) (by rw [List.length_map]; omega))]; rfl, a0⟩
 refine kT <| seqE <| blockE <| seqE ?_
 obtain ⟨b0, d0, e0, h0, i0, o0⟩ := RdT.elem ha (i : Int)
 rw [Int.toNat_natCast] at h0
 obtain ⟨c0, f0, g0, j0, k0, p0⟩ := RdT.elem hb (i : Int)
 rw [Int.toNat_natCast] at j0
 refine drawE [8] [(3, ⟨d0, e0 + 0, none⟩, I b0.w), (3, ⟨d0, e0 + 1, none⟩, I b0.h), (3, ⟨d0, e0 + 2, none⟩, I b0.max_), (3, ⟨d0, e0 + 3, none⟩, .slice b0.pix.a b0.pix.n b0.pix.k), (7, ⟨f0, g0 + 0, none⟩, I c0.w), (7, ⟨f0, g0 + 1, none⟩, I c0.h), (7, ⟨f0, g0 + 2, none⟩, I c0.max_), (7, ⟨f0, g0 + 3, none⟩, .slice c0.pix.a c0.pix.n c0.pix.k)] [(true, [0, 1]), (true, [2]), (true, [4, 5]), (true, [6]), (true, [3]), (true, [7]), (false, [8]), (true, [9])] rfl kr ⟨.inr ((i0.up 0 rfl).cell a0 (k := 0) rfl), .inr ((i0.up 0 rfl).cell a0 (k := 1) rfl), .inr ((i0.up 0 rfl).cell a0 (k := 2) rfl), .inr ((i0.up 0 rfl).cell a0 (k := 3) rfl), .inr ((k0.up 0 rfl).cell a0 (k := 0) rfl), .inr ((k0.up 0 rfl).cell a0 (k := 1) rfl), .inr ((k0.up 0 rfl).cell a0 (k := 2) rfl), .inr ((k0.up 0 rfl).cell a0 (k := 3) rfl), trivial⟩ ?_
 have q0 := a0.drew
 refine wU [0, 1] <| wY (.pointer (some ⟨d0, e0, none⟩)) rfl (fun w _ => Y_idx (a := aa) (i := (i : Int)) (len := na) (cap := ka) rfl runUnderlying25 sizeOf38 kr kr o0) <| wU [4, 5] <| wY (.pointer (some ⟨f0, g0, none⟩)) rfl (fun w _ => Y_idx (a := ab) (i := (i : Int)) (len := nb) (cap := kb) rfl runUnderlying25 sizeOf38 kr kr p0) <| wY (.agg (encPlane b0).toArray) rfl (fun w hF => Y_loadF rfl (isAgg38 w) (sizeOf38 w) kr rfl ⟨hF 0 _ _ rfl, hF 1 _ _ rfl, hF 2 _ _ rfl, hF 3 _ _ rfl, trivial⟩) <| wY (.agg (encPlane c0).toArray) rfl (fun w hF => Y_loadF rfl (isAgg38 w) (sizeOf38 w) kr rfl ⟨hF 4 _ _ rfl, hF 5 _ _ rfl, hF 6 _ _ rfl, hF 7 _ _ rfl, trivial⟩) <| wO rfl ?_
 refine cR call32 (r4_equal b0 c0 ⟨(RdT.flat ((da b0 (List.mem_of_getElem? h0)).pix.up 0 (by rfl)))⟩ ⟨(RdT.flat ((db c0 (List.mem_of_getElem? j0)).pix.up 0 (by rfl)))⟩ q0.flat) fun _ l0 => nilO ⟨dA, ?_⟩
 refine wU [9] <| wN <| tN <| cDn (b0.v = c0.v) (fun r0 => ?_) (fun r0 => ?_)
 rotate_left
 ·exact sR <| pu1 <| zB <| tR <| tK <| retT [.bool false] <| ⟨by rw [decide_eq_false (ne_of_at (map_at (f := Plane.v) h0) (map_at (f := Plane.v) j0) ‹_›)]; rfl, l0⟩
 exact skipE <| bN <| tN <| rE <| pu1 <| sAdd (i : Int) 1 <| pu1 <| nT <| ⟨i + 1, od, alA, l0, om, take_eq_succ hE (map_at (f := Plane.v) h0) (map_at (f := Plane.v) j0) ‹_›⟩
theorem l18_local (W w:World) (H:Chunk) (F:List Chunk) (t:Option Addr) (nt kt:Nat) (xt:List Int) (ht:RdT Go.E.encI 1 [H] t nt kt xt) (hS:Sat W w (H::F)):
  Calls prog 9 #[.slice t nt kt] w fun e w'=>e= .returned (.bool true)/\Sat W w' (H::F):=by
 have hlt:=ht.le
 refine callsA 104 func9 rfl ?_
 refine sR<|pu1<|zS<|pu1 ?_
 refine cX call11 (tape_new t nt kt hS) ?_
 rintro _ _ ⟨r2,rfl,s2⟩
 have w5:=ht.le
 refine pu1<|zS<|pu1 ?_
 refine cX call12 (tg_jobO (RdT.flat (ht.up 0 (by rfl))) om s2.flat1 3 om) ?_
 rintro _ _ ⟨a0,z1,q1,rfl,a1,g1,q0,t2,u2,v2,_,_,w2⟩
 have x2:=w2.unflat3
 have hok_q_7:Job.Ok [z1++q1] a0:=q0 _ _ _ _ _ a1 g1
 have hn_q_7:=a1.len;have hl_q_7:=a1.le
 obtain ⟨hgd,l0,hrn⟩:=u2
 have hns:=(hok_q_7).stages.len;have hni:=(hok_q_7).inputs.len;have hno:=(hok_q_7).outputs.len;have hjO:=v2;have hjB:=t2
 have hb:a0.inputs.n<=1000/\a0.stages.n<=1000/\a0.outputs.n<=1000:=by have h1:=hgd.ni;have h2:=hgd.ns;rw [List.length_map] at h1 h2;omega
 have hns4:=hjB.2.1.1;have hni2:=hgd.ni;have hns8:=hgd.ns;rw [List.length_map] at hni2 hns8
 refine sAlloc x2 zeroValue28 ?_
 intro a2 _ y2
 refine sT y2 0 0 (.agg (encJob a0).toArray) (encJob a0) (encJob a0).toArray sizeOf28 ?_
 intro _ b2
 refine zS ?_
 refine lA b2 0 0 4 (isAgg28 _) (sizeOf28 _) ?_
 refine cX call35 (p18_of a0 ⟨(RdT.flat ((q0 _ 0 0 [] [] (OwnT.nil (fun _=>(by rfl))) (fun z hz=>by cases hz)).inputs.up 3 (by rfl))),(fun z hz=>((q0 _ 0 0 [] [] (OwnT.nil fR) (fun z hz=>by cases hz)).inputsD z hz).of_mem (mem_flat1 3 (by rfl))),(RdT.flat (a1.rdAt 2 (by rfl))),(fun z hz=>(g1 z hz).of_mem (mem_flat1 3 (by rfl))),(RdT.flat ((q0 _ 0 0 [] [] (OwnT.nil (fun _=>(by rfl))) (fun z hz=>by cases hz)).outputs.up 3 (by rfl)))⟩ (od) b2.flat) ?_
 rintro _ _ ⟨i1,b0,j1,j0,c2,z2,rfl,b1,k1,d2,a3⟩
 have b3:=a3.unflat1
 have hn_az_32:=b1.len;have hl_az_32:=b1.le
 have hz0q:(shpV a0.v).2.2=0:=(out_law (j:=a0.v) (k:=a0.v) hgd hrn (by rw [List.length_map];omega) rfl rfl rfl (by show 1<=a0.outputs.l.length/\a0.outputs.l.length<=16;omega) hjO.2.2 rfl rfl hgd.pr (by show 1<=a0.outputs.l.length/\a0.outputs.l.length<=16;omega) (by have h:=hjO.2.2;unfold inR at h;rw [List.all_eq_true] at h;exact fun x hx=>of_decide_eq_true (h x hx))).1
 have hml:(meanV a0.v).length=a0.inputs.n+a0.stages.n:=by have h:=(mean_ok hz0q).1;rw [show (Job.v a0).inputs.length=a0.inputs.n from by show (a0.inputs.l.map Plane.v).length=_;rw [List.length_map];omega,show (Job.v a0).stages.length=a0.stages.n from by show (a0.stages.l.map Stage.v).length=_;rw [List.length_map];omega] at h;exact h
 have hea:c2=0:=by have h:=congrArg Prod.snd d2;dsimp only at h;omega
 have hva:j0.map Plane.v=meanV a0.v:=congrArg Prod.fst d2;have hla:j0.length=a0.inputs.n+a0.stages.n:=by have h:=congrArg List.length hva;rw [List.length_map,hml] at h;exact h
 refine pu5<|zQ<|pu3 ?_
 have c3:(c2:Int)=0:=by omega
 refine sFix 24 _ false (bne_eq_false_iff_eq.2 c3) ?_
 refine pu4<|nT ?_
 refine cD ((b0:Int)<2) (fun d3=>?_) (fun d3=>?_)
 ·refine sR<|pu1<|zR<|retT [.bool false] ?_
  first|omega
 refine kS<|pu1 ?_
 refine sBS b3 #[I 5,I 4] runUnderlying22 sizeOf3 zeroValue3 ?_
 intro e3 _ f3
 have g3:=(f3.pick 3 rfl)
 refine cX call42 (tape_pick (RdT.flat (ht.up 5 (by rfl))) om g3.flat1 (RdT.flat (RdT.blk (enc:=Go.E.encI) (sz:=1) (xs:=[5,4]) (fun _=>(by rfl)) 2 0 rfl rfl rfl om)) om om) ?_
 rintro _ _ ⟨f0,rfl,h3,_,_,i3⟩
 have j3:=i3.unflat1
 have h6:(f0:Int)=5\/(f0:Int)=4:=by simpa using h3
 refine pu3 ?_
 refine cX call15 (tape_next (RdT.flat (ht.up 5 (by rfl))) om j3.flat1 (b0:Int) om) ?_
 rintro _ _ ⟨i0,rfl,_,k3,_,l3⟩
 have m3:=l3.unflat1
 refine pu1 ?_
 refine sAlloc m3 zeroValue53 ?_
 intro e0 _ n3
 refine sT n3 0 0 (.agg (encStage {zStage with kind:=f0,a:=i0,b:=-1}).toArray) (encStage {zStage with kind:=f0,a:=i0,b:=-1}) (encStage {zStage with kind:=f0,a:=i0,b:=-1}).toArray sizeOf53 ?_
 intro _ r1
 refine nT ?_
 refine cutA (γ:=Int×Int) (fun ⟨bn,ic⟩=>[(4,Pt a2 0),(5, .slice i1 b0 j1),(7,Pt e0 0)]) (fun ⟨bn,ic⟩ w=>Sat W w ([(e0, .cells (encStage {zStage with kind:=f0,a:=i0,b:=-1,bins:=bn}).toArray 53 (0,0))]::[(r2, .cells #[.slice t nt kt,I ic] 81 (0,0))]::[(e3, .cells #[I 5,I 4] 3 (0,0))]::z2::[(a2, .cells (encJob a0).toArray 28 (0,0))]::z1::q1::H::F)/\((f0=5/\bn=0)\/(f0=4/\1<=bn/\bn<=5))/\(0<=ic/\ic<=nt)) ?_ ?_
 ·refine sR<|pu1 ?_
  refine sL r1 0 0 (I f0) (isAgg3 _) ?_
  refine pu1<|nT ?_
  refine cE f0 4 (fun o3=>?_) (fun o3=>?_)
  rotate_left
  ·refine kT ?_
   exact ⟨(0,k3),alA,r1,om,om⟩
  refine rE<|pu1 ?_
  have p3:=(r1.pick 1 rfl)
  refine cX call15 (tape_next (RdT.flat (ht.up 6 (by rfl))) om p3.flat1 5 om) ?_
  rintro _ _ ⟨s1,rfl,_,q3,_,r3⟩
  have s3:=r3.unflat1
  refine sAdd 1 s1 ?_
  refine pu1 ?_
  refine tW s3 1 15 (I (1+s1)) sizeOf3 ?_
  intro _ t3
  refine nT ?_
  exact ⟨((1+s1),q3),alA,(t3.pick 1 rfl),om,om⟩
 rintro ⟨bn,ic⟩ ρ _ ⟨e2,hbn,hic⟩
 refine sR ?_
 refine lA e2 4 0 4 (isAgg28 _) (sizeOf28 _) ?_
 refine cX call43 (tg_copyJob W _ _ [] a0 ⟨(RdT.flat ((q0 _ 0 0 [] [] (OwnT.nil (fun _=>(by rfl))) (fun z hz=>by cases hz)).inputs.up 6 (by rfl))),(fun z hz=>((q0 _ 0 0 [] [] (OwnT.nil fR) (fun z hz=>by cases hz)).inputsD z hz).of_mem (mem_flat1 6 (by rfl))),(RdT.flat (a1.rdAt 5 (by rfl))),(fun z hz=>(g1 z hz).of_mem (mem_flat1 6 (by rfl))),(RdT.flat ((q0 _ 0 0 [] [] (OwnT.nil (fun _=>(by rfl))) (fun z hz=>by cases hz)).outputs.up 6 (by rfl)))⟩ om e2.flat) ?_
 rintro _ _ ⟨a1_79,a2_80,a3_81,n1_82,k1_83,n2_84,k2_85,n3_86,k3_87,c1_88,c2_89,c3_90,rfl,t1,u1,v1,v3⟩
 have w3:=Sat.unflatc v3
 have hn_a1_79:=t1.len;have hl_a1_79:=t1.le
 have hn_a2_80:=u1.len;have hl_a2_80:=u1.le
 have hn_a3_81:=v1.len;have hl_a3_81:=v1.le
 refine sAlloc w3 zeroValue28 ?_
 intro _ _ x3
 refine sT x3 0 0 (.agg #[.slice a1_79 n1_82 k1_83, .slice a2_80 n2_84 k2_85, .slice a3_81 n3_86 k3_87,I a0.priority]) [.slice a1_79 n1_82 k1_83, .slice a2_80 n2_84 k2_85, .slice a3_81 n3_86 k3_87,I a0.priority] #[.slice a1_79 n1_82 k1_83, .slice a2_80 n2_84 k2_85, .slice a3_81 n3_86 k3_87,I a0.priority] sizeOf28 ?_
 intro _ w1
 refine zS<|pu1 ?_
 refine sL w1 0 1 (.slice a2_80 n2_84 k2_85) (isAgg26 _) ?_
 refine lA w1 4 0 18 (isAgg53 _) (sizeOf53 _) ?_
 refine sBS w1 (encStage {zStage with kind:=f0,a:=i0,b:=-1,bins:=bn}).toArray runUnderlying26 sizeOf53 zeroValue53 ?_
 intro _ _ y3
 refine sApp (nb:=240) y3 u1 3 (RdT.blk (enc:=encStage) (sz:=18) (xs:=[(⟨f0,i0,-1,false,0,0,0,0,⟨none,0,0,[]⟩,⟨none,0,0,[]⟩,⟨none,0,0,[]⟩,0,0,⟨none,0,0,[]⟩,⟨none,0,0,[]⟩,bn,⟨none,0,0,[]⟩,0⟩:Stage)]) fR 1 0 rfl rfl rfl om) underlying26 (i:=Tryz.t53) kr fR ?_
 intro l1 m1 _ _ z3 a4
 refine pu1 ?_
 refine tW a4 1 1 (.slice l1 (n2_84+1) m1) sizeOf26 ?_
 intro _ f2
 refine nT<|seqE ?_
 obtain ⟨z,hz⟩:∃z:Stage,z=(⟨f0,i0,-1,false,0,0,0,0,⟨none,0,0,[]⟩,⟨none,0,0,[]⟩,⟨none,0,0,[]⟩,0,0,⟨none,0,0,[]⟩,⟨none,0,0,[]⟩,bn,⟨none,0,0,[]⟩,0⟩:Stage):=⟨_,rfl⟩
 have g2:=z3;rw [<-hz] at g2
 have hzd:∀y∈(a0.stages.l++[z]),Stage.Ok [q1] y:=by
  intro y hy
  rcases List.mem_append.1 hy with h|h
  ·exact g1 y h
  ·rw [List.mem_singleton.1 h,hz];exact ⟨RdT.nil (enc:=Go.E.encI) (sz:=1) fR _,RdT.nil (enc:=Go.E.encI) (sz:=1) fR _,RdT.nil (enc:=Go.E.encI) (sz:=1) fR _,RdT.nil (enc:=encTap) (sz:=2) fR _,(fun z hz=>by cases hz),RdT.nil (enc:=encTap) (sz:=2) fR _,(fun z hz=>by cases hz),RdT.nil (enc:=encPOp) (sz:=2) fR _⟩
 have hzk:z.kind=f0/\z.a=i0/\z.b=-1:=by rw [hz];exact ⟨rfl,rfl,rfl⟩
 have hzt:¬twoP z.v:=by unfold twoP;simp only [Stage.v];omega
 have hzf:fieldsP z.v:=by rw [hz];unfold fieldsP;rcases hbn with ⟨h1,h2⟩|⟨h1,h2⟩<;>simp [Stage.v,h1,h2]
 have hzb:z.v.kind=5\/(z.v.kind=4/\1<=z.v.bins/\z.v.bins<=128):=by rw [hz];simp only [Stage.v];omega
 refine rE ?_
 refine lA f2 1 0 4 (isAgg28 _) (sizeOf28 _) ?_
 refine cX call35 (p18_of (⟨⟨a1_79,n1_82,k1_83,a0.inputs.l⟩,⟨l1,(n2_84+1),m1,(a0.stages.l++[z])⟩,⟨a3_81,n3_86,k3_87,a0.outputs.l⟩,a0.priority⟩:Job) ⟨(RdT.flat (t1.rdAt 2 (by rfl))),(fun z hz=>((q0 _ 0 0 [] [] (OwnT.nil fR) (fun z hz=>by cases hz)).inputsD z hz).of_mem (mem_flat1 11 (by rfl))),(RdT.flat (g2.rdAt 3 (by rfl))),(fun z hz=>(hzd z hz).of_mem (mem_flat1 11 (by rfl))),(RdT.flat (v1.rdAt 4 (by rfl)))⟩ (od) f2.flat) ?_
 rintro _ _ ⟨r0,v0,m0,n0,g0,_,rfl,w0,x0,i2,b4⟩
 have c0:=b4.unflat1
 have hn_az_120:=w0.len;have hl_az_120:=w0.le
 obtain ⟨_,hm2,hpo,hcd,hmm⟩:=more_law (s:=z.v) (j:=a0.v) (k:=Job.v (⟨⟨a1_79,n1_82,k1_83,a0.inputs.l⟩,⟨l1,(n2_84+1),m1,(a0.stages.l++[z])⟩,⟨a3_81,n3_86,k3_87,a0.outputs.l⟩,a0.priority⟩:Job)) hgd hrn (by rw [List.length_map];omega) (by rw [List.length_map];omega) hzt (by rw [List.length_map,List.length_map];show 0<=z.a/\z.a<_;omega) rfl rfl rfl (by show 1<=a0.outputs.l.length/\a0.outputs.l.length<=16;omega) hjO.2.2 rfl (by show (a0.stages.l++[z]).map Stage.v=_;rw [List.map_append];rfl) rfl rfl
 have hcb:g0=(stgT z.v (plAt (meanV a0.v) z.v.a) zPl).2:=by have h:=congrArg Prod.snd i2;dsimp only at h;rw [h];exact hcd
 have hvb:n0.map Plane.v=meanV (Job.v (⟨⟨a1_79,n1_82,k1_83,a0.inputs.l⟩,⟨l1,(n2_84+1),m1,(a0.stages.l++[z])⟩,⟨a3_81,n3_86,k3_87,a0.outputs.l⟩,a0.priority⟩:Job)):=congrArg Prod.fst i2
 refine pu5<|nT<|seqE ?_
 obtain ⟨k0,c1,d1,n1,s0,c4⟩:=RdT.elem b1 i0
 refine drawP [7,11,12] [(0,⟨e0,0,none⟩,I f0),(0,⟨e0,1,none⟩,I i0),(0,⟨e0,2,none⟩,I (-1)),(0,⟨e0,3,none⟩, .bool false),(0,⟨e0,4,none⟩,I 0),(0,⟨e0,5,none⟩,I 0),(0,⟨e0,6,none⟩,I 0),(0,⟨e0,7,none⟩,I 0),(0,⟨e0,8,none⟩,nS),(0,⟨e0,9,none⟩,nS),(0,⟨e0,10,none⟩,nS),(0,⟨e0,11,none⟩,I 0),(0,⟨e0,12,none⟩,I 0),(0,⟨e0,13,none⟩,nS),(0,⟨e0,14,none⟩,nS),(0,⟨e0,15,none⟩,I bn),(0,⟨e0,16,none⟩,nS),(0,⟨e0,17,none⟩,I 0),(3,⟨e0,1,none⟩,I i0),(5,⟨c1,d1+0,none⟩,I k0.w),(5,⟨c1,d1+1,none⟩,I k0.h),(5,⟨c1,d1+2,none⟩,I k0.max_),(5,⟨c1,d1+3,none⟩, .slice k0.pix.a k0.pix.n k0.pix.k)] (Plan.sts [1,2,6]<|Plan.sts [0]<|Plan.sts [3]<|Plan.sts [4]<|Plan.sts [5]<| .fk 7 11 (Plan.sts [8]<|Plan.sts [9]<|Plan.sts [10]<| .ef 11<| .ef 12<|Plan.sts [13]<| .fin) (.ef 7<|Plan.sts [8]<|Plan.sts [9]<|Plan.sts [10]<| .ef 12<|Plan.sts [13]<| .fin)) rfl kr ⟨cI c0 6,cI c0 6,cI c0 6,cI c0 6,cI c0 6,cI c0 6,cI c0 6,cI c0 6,cI c0 6,cI c0 6,cI c0 6,cI c0 6,cI c0 6,cI c0 6,cI c0 6,cI c0 6,cI c0 6,cI c0 6,cI c0 6, .inr ((s0.up 9 rfl).cell c0 (k:=0) rfl), .inr ((s0.up 9 rfl).cell c0 (k:=1) rfl), .inr ((s0.up 9 rfl).cell c0 (k:=2) rfl), .inr ((s0.up 9 rfl).cell c0 (k:=3) rfl),trivial⟩ ?_
 have j2:=c0.drew
 refine qU [1,2,6] ?_
 refine qY (.agg (encStage {zStage with kind:=f0,a:=i0,b:=-1,bins:=bn}).toArray) rfl (fun w hF=>Y_loadF rfl (isAgg53 w) (sizeOf53 w) kr rfl ⟨hF 0 _ _ rfl,hF 1 _ _ rfl,hF 2 _ _ rfl,hF 3 _ _ rfl,hF 4 _ _ rfl,hF 5 _ _ rfl,hF 6 _ _ rfl,hF 7 _ _ rfl,hF 8 _ _ rfl,hF 9 _ _ rfl,hF 10 _ _ rfl,hF 11 _ _ rfl,hF 12 _ _ rfl,hF 13 _ _ rfl,hF 14 _ _ rfl,hF 15 _ _ rfl,hF 16 _ _ rfl,hF 17 _ _ rfl,trivial⟩) ?_
 refine qLd (I i0) 18 isAgg3 ?_
 refine qY (.pointer (some ⟨c1,d1,none⟩)) rfl (fun w _=>Y_idx (a:=i1) (i:=i0) (len:=b0) (cap:=j1) rfl runUnderlying25 sizeOf38 kr kr c4) ?_
 refine qY (.agg (encPlane k0).toArray) rfl (fun w hF=>Y_loadF rfl (isAgg38 w) (sizeOf38 w) kr rfl ⟨hF 19 _ _ rfl,hF 20 _ _ rfl,hF 21 _ _ rfl,hF 22 _ _ rfl,trivial⟩) ?_
 refine qF ?_ ?_
 ·refine qO rfl ?_
  refine cX call40 (p18_stage (⟨f0,i0,-1,false,0,0,0,0,⟨none,0,0,[]⟩,⟨none,0,0,[]⟩,⟨none,0,0,[]⟩,0,0,⟨none,0,0,[]⟩,⟨none,0,0,[]⟩,bn,⟨none,0,0,[]⟩,0⟩:Stage) k0 (⟨0,0,0,⟨none,0,0,[]⟩⟩:Plane) ⟨(RdT.nil (enc:=Go.E.encI) (sz:=1) fR _),(RdT.nil (enc:=Go.E.encI) (sz:=1) fR _),(RdT.nil (enc:=Go.E.encI) (sz:=1) fR _),(RdT.nil (enc:=encTap) (sz:=2) fR _),(fun z hz=>by cases hz),(RdT.nil (enc:=encTap) (sz:=2) fR _),(fun z hz=>by cases hz),(RdT.nil (enc:=encPOp) (sz:=2) fR _)⟩ ⟨(RdT.flat ((k1 k0 (List.mem_of_getElem? n1)).pix.up 9 (by rfl)))⟩ ⟨(RdT.nil (enc:=Go.E.encI) (sz:=1) fR _)⟩ j2.flat) ?_
  rintro _ _ ⟨o0,x1,_,rfl,o1,d4,e4⟩
  have k2:=e4.unflat1
  have hn_q_135_pix:=o1.pix.len;have hl_q_135_pix:=o1.pix.le
  have hyp:plAt (meanV a0.v) z.v.a=k0.v:=by rw [<-hva,show z.v.a=_ from hzk.2.1];exact plAt_map n1
  have hst:(o0.v,x1)=stgT z.v (plAt (meanV a0.v) z.v.a) zPl:=by rw [hyp,d4,<-hz,if_neg hzt]
  have hfg:g0=x1:=by rw [hcb,<-hst]
  have hlb:g0=0->n0.map Plane.v=j0.map Plane.v++[o0.v]:=by intro h0;rw [hvb,hva,hmm (by rw [hcd,<-hcb];exact h0),<-hst]
  have hlb2:g0=0->n0.length=j0.length+1:=by intro h0;have h:=congrArg List.length (hlb h0);rw [List.length_append,List.length_map,List.length_map] at h;exact h
  have h11:¬g0=0->g0=11:=by
   intro h0
   have hof:(stgT z.v (plAt (meanV a0.v) z.v.a) zPl).2=(ofV z.v (shpOf (plAt (meanV a0.v) z.v.a)) (shpOf zPl)).2:=by
    by_cases hc:(ofV z.v (shpOf (plAt (meanV a0.v) z.v.a)) (shpOf zPl)).2=0
    ·rw [(stg_ok hpo (fun h=>absurd h hzt) hc).1,hc]
    ·rw [stg_c ⟨hpo,fun h=>absurd h hzt⟩ hc]
   rw [hcb,hof] at h0⊢
   exact more_code (by have h:=(plane_sz hpo).1;unfold sizeP at h;unfold szP;simp only [shpOf];omega) hzf hzb h0
  refine nilO ⟨⟨dI,dI,dI,dI,dI,dI,dI,dI,dI,dI,dI,dI,dI,dI,dI,dI,dI,dI,cI k2 7,dI,dI,dI,dI,trivial⟩,?_⟩
  refine qU [8]<|qU [9]<|qU [10] ?_
  refine qO rfl ?_
  refine sAlloc k2 zeroValue38 ?_
  intro _ _ l2
  refine nilO ⟨⟨dI,dI,dI,dI,dI,dI,dI,dI,dI,dI,dI,dI,dI,dI,dI,dI,dI,dI,cI l2 8,dI,dI,dI,dI,trivial⟩,?_⟩
  refine qO rfl ?_
  refine sT l2 0 0 (.agg (encPlane o0).toArray) (encPlane o0) (encPlane o0).toArray sizeOf38 ?_
  intro _ m2
  refine nilO ⟨dA,?_⟩
  refine qU [13] ?_
  refine qN ?_
  refine tN<|seqE<|sR<|pu3<|nT ?_
  have f4:(g0:Int)=x1:=by omega
  refine cF _ (bne_eq_false_iff_eq.2 f4) ?_
  refine kT<|seqE<|sR<|pu2<|nT ?_
  refine cN g0 0 (fun g4=>?_) (fun g4=>?_)
  rotate_left
  ·refine sR<|pu3 ?_
   have h4:(g0:Int)=11:=(h11 om)
   refine sFix 75 _ true (beq_iff_eq.2 h4) ?_
   refine gY ?_
   refine cR call39 (l18_sane m2.flat) ?_
   intro _ i4
   refine pu2<|zR<|retT [.bool true] ?_
   exact ⟨rfl,(i4.drops [0,0,0,0,0,0,0,0,0,0,0,0,0,0,0])⟩
  refine kT<|seqE ?_
  have k4:((v0:Int):Int)=((b0:Int)+1):=(by have h:=hlb2 om;omega)
  refine drawP [12,19,20,21,24] [] (Plan.sts [0,1,2,3]<|Plan.sts [4]<|Plan.sts [5,6]<|Plan.sts [7,8,9]<|Plan.sts [10]<|Plan.sts [11]<| .ef 12<|Plan.sts [13,14]<|Plan.sts [15]<|Plan.sts [16]<|Plan.sts [17]<|Plan.sts [18]<| .fk 19 20 (.ef 20<| .ef 21<|Plan.sts [22]<|Plan.sts [23]<| .ef 24<|Plan.sts [25]<|Plan.sts [26]<| .fin) (.ef 19<| .ef 21<|Plan.sts [22]<|Plan.sts [23]<| .ef 24<|Plan.sts [25]<|Plan.sts [26]<| .fin)) rfl kr trivial ?_
  have l4:=m2.drew
  refine qU [0,1,2,3] ?_
  refine qAdd (b0:Int) 1 ?_
  refine qU [5,6] ?_
  refine qFix 84 _ true (beq_iff_eq.2 k4) ?_
  refine qU [7,8,9] ?_
  have m4:=w0.part (lo:=0) (hi:=b0) om om
  refine qY (.slice (partAddr r0 m0 0 4) (b0-0) (m0-0)) rfl (fun w _=>Y_sl (a:=r0) (len:=v0) (cap:=m0) none (some (b0:Int)) 0 b0 runUnderlying25 sizeOf38 rfl ⟨om,om⟩ om om) ?_
  refine qU [11] ?_
  refine qO rfl ?_
  refine gY ?_
  refine cR call20 (r18_same (partAddr r0 m0 0 4) (b0-0) (m0-0) ((n0.drop 0).take (b0-0)) i1 b0 j1 j0 (RdT.flat (m4.up 2 (by rfl))) (fun z hz=>(x0 z (List.mem_of_mem_drop (List.mem_of_mem_take hz))).of_mem (mem_flat1 2 (by rfl))) (RdT.flat (b1.up 11 (by rfl))) (fun z hz=>(k1 z hz).of_mem (mem_flat1 11 (by rfl))) l4.flat) ?_
  intro _ y0
  refine nilO ⟨trivial,?_⟩
  refine qU [13,14] ?_
  have n4:((n0.drop 0).take (b0-0)).map Plane.v=j0.map Plane.v:=(by have h:=hlb om;rw [List.drop_zero,List.map_take,h,List.take_left' (by rw [List.length_map];omega)])
  refine qFix 92 _ true (decide_eq_true n4) ?_
  refine qU [15]<|qU [16]<|qU [17] ?_
  obtain ⟨t0,o4,p4,e1,n2,q4⟩:=RdT.elem w0 (b0:Int)
  rw [Int.toNat_natCast] at e1
  refine qY (.pointer (some ⟨o4,p4,none⟩)) rfl (fun w _=>Y_idx (a:=r0) (i:=(b0:Int)) (len:=v0) (cap:=m0) rfl runUnderlying25 sizeOf38 kr kr q4) ?_
  refine qF ?_ ?_
  rotate_left
  ·refine qO rfl ?_
   refine gY ?_
   refine lA y0 0 0 4 (isAgg38 _) (sizeOf38 _) ?_
   refine nilO ⟨trivial,?_⟩
   refine qO rfl ?_
   refine gY ?_
   refine sLpA y0 (n2.up 2 rfl) 0 (encPlane t0) (isAgg38 _) (sizeOf38 _) ?_
   refine nilO ⟨trivial,?_⟩
   refine qO rfl ?_
   refine gY ?_
   refine cR call32 (r4_equal t0 o0 ⟨(RdT.flat ((x0 t0 (List.mem_of_getElem? e1)).pix.up 2 (by rfl)))⟩ ⟨(RdT.flat (o1.pix.up 1 (by rfl)))⟩ y0.flat) ?_
   intro _ r4
   refine nilO ⟨trivial,?_⟩
   refine qU [22]<|qU [23] ?_
   have s4:t0.v=o0.v:=(by have h1:=map_at (f:=Plane.v) e1;rw [hlb om,List.getElem?_append_right (by rw [List.length_map];omega),List.length_map,show _-j0.length=0 from by omega] at h1;exact (Option.some.inj h1).symm)
   refine qFix 101 _ true (decide_eq_true s4) ?_
   refine qO rfl ?_
   refine gY ?_
   refine cR call39 (l18_sane r4.flat) ?_
   intro _ t4
   refine nilO ⟨trivial,?_⟩
   refine qU [25]<|qU [26] ?_
   refine qN ?_
   refine tN<|retE<|retT [.bool true] ?_
   exact ⟨rfl,(t4.drops [0,0,0,0,0,0,0,0,0,0,0,0,0,0,0])⟩
  refine qO rfl ?_
  refine gY ?_
  refine sLpA y0 (n2.up 2 rfl) 0 (encPlane t0) (isAgg38 _) (sizeOf38 _) ?_
  refine nilO ⟨trivial,?_⟩
  refine qO rfl ?_
  refine gY ?_
  refine lA y0 0 0 4 (isAgg38 _) (sizeOf38 _) ?_
  refine nilO ⟨trivial,?_⟩
  refine qO rfl ?_
  refine gY ?_
  refine cR call32 (r4_equal t0 o0 ⟨(RdT.flat ((x0 t0 (List.mem_of_getElem? e1)).pix.up 2 (by rfl)))⟩ ⟨(RdT.flat (o1.pix.up 1 (by rfl)))⟩ y0.flat) ?_
  intro _ v4
  refine nilO ⟨trivial,?_⟩
  refine qU [22]<|qU [23] ?_
  have w4:t0.v=o0.v:=(by have h1:=map_at (f:=Plane.v) e1;rw [hlb om,List.getElem?_append_right (by rw [List.length_map];omega),List.length_map,show _-j0.length=0 from by omega] at h1;exact (Option.some.inj h1).symm)
  refine qFix 101 _ true (decide_eq_true w4) ?_
  refine qO rfl ?_
  refine gY ?_
  refine cR call39 (l18_sane v4.flat) ?_
  intro _ x4
  refine nilO ⟨trivial,?_⟩
  refine qU [25]<|qU [26] ?_
  refine qN ?_
  refine tN<|retE<|retT [.bool true] ?_
  exact ⟨rfl,(x4.drops [0,0,0,0,0,0,0,0,0,0,0,0,0,0,0])⟩
 refine qO rfl ?_
 refine sAlloc j2 zeroValue38 ?_
 intro _ _ d0
 refine nilO ⟨⟨cI d0 7,cI d0 7,cI d0 7,cI d0 7,cI d0 7,cI d0 7,cI d0 7,cI d0 7,cI d0 7,cI d0 7,cI d0 7,cI d0 7,cI d0 7,cI d0 7,cI d0 7,cI d0 7,cI d0 7,cI d0 7,cI d0 7, .inr ((s0.up 10 rfl).cell d0 (k:=0) rfl), .inr ((s0.up 10 rfl).cell d0 (k:=1) rfl), .inr ((s0.up 10 rfl).cell d0 (k:=2) rfl), .inr ((s0.up 10 rfl).cell d0 (k:=3) rfl),trivial⟩,?_⟩
 refine qO rfl ?_
 refine cX call40 (p18_stage (⟨f0,i0,-1,false,0,0,0,0,⟨none,0,0,[]⟩,⟨none,0,0,[]⟩,⟨none,0,0,[]⟩,0,0,⟨none,0,0,[]⟩,⟨none,0,0,[]⟩,bn,⟨none,0,0,[]⟩,0⟩:Stage) k0 (⟨0,0,0,⟨none,0,0,[]⟩⟩:Plane) ⟨(RdT.nil (enc:=Go.E.encI) (sz:=1) fR _),(RdT.nil (enc:=Go.E.encI) (sz:=1) fR _),(RdT.nil (enc:=Go.E.encI) (sz:=1) fR _),(RdT.nil (enc:=encTap) (sz:=2) fR _),(fun z hz=>by cases hz),(RdT.nil (enc:=encTap) (sz:=2) fR _),(fun z hz=>by cases hz),(RdT.nil (enc:=encPOp) (sz:=2) fR _)⟩ ⟨(RdT.flat ((k1 k0 (List.mem_of_getElem? n1)).pix.up 10 (by rfl)))⟩ ⟨(RdT.nil (enc:=Go.E.encI) (sz:=1) fR _)⟩ d0.flat) ?_
 rintro _ _ ⟨p0,y1,_,rfl,p1,z4,a5⟩
 have o2:=a5.unflat1
 have hn_q_187_pix:=p1.pix.len;have hl_q_187_pix:=p1.pix.le
 have hyp:plAt (meanV a0.v) z.v.a=k0.v:=by rw [<-hva,show z.v.a=_ from hzk.2.1];exact plAt_map n1
 have hst:(p0.v,y1)=stgT z.v (plAt (meanV a0.v) z.v.a) zPl:=by rw [hyp,z4,<-hz,if_neg hzt]
 have hfg:g0=y1:=by rw [hcb,<-hst]
 have hlb:g0=0->n0.map Plane.v=j0.map Plane.v++[p0.v]:=by intro h0;rw [hvb,hva,hmm (by rw [hcd,<-hcb];exact h0),<-hst]
 have hlb2:g0=0->n0.length=j0.length+1:=by intro h0;have h:=congrArg List.length (hlb h0);rw [List.length_append,List.length_map,List.length_map] at h;exact h
 have h11:¬g0=0->g0=11:=by
  intro h0
  have hof:(stgT z.v (plAt (meanV a0.v) z.v.a) zPl).2=(ofV z.v (shpOf (plAt (meanV a0.v) z.v.a)) (shpOf zPl)).2:=by
   by_cases hc:(ofV z.v (shpOf (plAt (meanV a0.v) z.v.a)) (shpOf zPl)).2=0
   ·rw [(stg_ok hpo (fun h=>absurd h hzt) hc).1,hc]
   ·rw [stg_c ⟨hpo,fun h=>absurd h hzt⟩ hc]
  rw [hcb,hof] at h0⊢
  exact more_code (by have h:=(plane_sz hpo).1;unfold sizeP at h;unfold szP;simp only [shpOf];omega) hzf hzb h0
 refine nilO ⟨⟨dI,dI,dI,dI,dI,dI,dI,dI,dI,dI,dI,dI,dI,dI,dI,dI,dI,dI,cI o2 8,dI,dI,dI,dI,trivial⟩,?_⟩
 refine qU [8]<|qU [9]<|qU [10] ?_
 refine qO rfl ?_
 refine sT o2 1 0 (.agg (encPlane p0).toArray) (encPlane p0) (encPlane p0).toArray sizeOf38 ?_
 intro _ p2
 refine nilO ⟨dA,?_⟩
 refine qU [13] ?_
 refine qN ?_
 refine tN<|seqE<|sR<|pu3<|nT ?_
 have b5:(g0:Int)=y1:=by omega
 refine cF _ (bne_eq_false_iff_eq.2 b5) ?_
 refine kT<|seqE<|sR<|pu2<|nT ?_
 refine cN g0 0 (fun c5=>?_) (fun c5=>?_)
 rotate_left
 ·refine sR<|pu3 ?_
  have d5:(g0:Int)=11:=(h11 om)
  refine sFix 75 _ true (beq_iff_eq.2 d5) ?_
  refine gY ?_
  refine cR call39 (l18_sane p2.flat) ?_
  intro _ e5
  refine pu2<|zR<|retT [.bool true] ?_
  exact ⟨rfl,(e5.drops [0,0,0,0,0,0,0,0,0,0,0,0,0,0,0])⟩
 refine kT<|seqE ?_
 have g5:((v0:Int):Int)=((b0:Int)+1):=(by have h:=hlb2 om;omega)
 refine drawP [12,19,20,21,24] [] (Plan.sts [0,1,2,3]<|Plan.sts [4]<|Plan.sts [5,6]<|Plan.sts [7,8,9]<|Plan.sts [10]<|Plan.sts [11]<| .ef 12<|Plan.sts [13,14]<|Plan.sts [15]<|Plan.sts [16]<|Plan.sts [17]<|Plan.sts [18]<| .fk 19 20 (.ef 20<| .ef 21<|Plan.sts [22]<|Plan.sts [23]<| .ef 24<|Plan.sts [25]<|Plan.sts [26]<| .fin) (.ef 19<| .ef 21<|Plan.sts [22]<|Plan.sts [23]<| .ef 24<|Plan.sts [25]<|Plan.sts [26]<| .fin)) rfl kr trivial ?_
 have h5:=p2.drew
 refine qU [0,1,2,3] ?_
 refine qAdd (b0:Int) 1 ?_
 refine qU [5,6] ?_
 refine qFix 84 _ true (beq_iff_eq.2 g5) ?_
 refine qU [7,8,9] ?_
 have i5:=w0.part (lo:=0) (hi:=b0) om om
 refine qY (.slice (partAddr r0 m0 0 4) (b0-0) (m0-0)) rfl (fun w _=>Y_sl (a:=r0) (len:=v0) (cap:=m0) none (some (b0:Int)) 0 b0 runUnderlying25 sizeOf38 rfl ⟨om,om⟩ om om) ?_
 refine qU [11] ?_
 refine qO rfl ?_
 refine gY ?_
 refine cR call20 (r18_same (partAddr r0 m0 0 4) (b0-0) (m0-0) ((n0.drop 0).take (b0-0)) i1 b0 j1 j0 (RdT.flat (i5.up 2 (by rfl))) (fun z hz=>(x0 z (List.mem_of_mem_drop (List.mem_of_mem_take hz))).of_mem (mem_flat1 2 (by rfl))) (RdT.flat (b1.up 11 (by rfl))) (fun z hz=>(k1 z hz).of_mem (mem_flat1 11 (by rfl))) h5.flat) ?_
 intro _ z0
 refine nilO ⟨trivial,?_⟩
 refine qU [13,14] ?_
 have j5:((n0.drop 0).take (b0-0)).map Plane.v=j0.map Plane.v:=(by have h:=hlb om;rw [List.drop_zero,List.map_take,h,List.take_left' (by rw [List.length_map];omega)])
 refine qFix 92 _ true (decide_eq_true j5) ?_
 refine qU [15]<|qU [16]<|qU [17] ?_
 obtain ⟨u0,k5,l5,f1,q2,m5⟩:=RdT.elem w0 (b0:Int)
 rw [Int.toNat_natCast] at f1
 refine qY (.pointer (some ⟨k5,l5,none⟩)) rfl (fun w _=>Y_idx (a:=r0) (i:=(b0:Int)) (len:=v0) (cap:=m0) rfl runUnderlying25 sizeOf38 kr kr m5) ?_
 refine qF ?_ ?_
 rotate_left
 ·refine qO rfl ?_
  refine gY ?_
  refine lA z0 1 0 4 (isAgg38 _) (sizeOf38 _) ?_
  refine nilO ⟨trivial,?_⟩
  refine qO rfl ?_
  refine gY ?_
  refine sLpA z0 (q2.up 2 rfl) 0 (encPlane u0) (isAgg38 _) (sizeOf38 _) ?_
  refine nilO ⟨trivial,?_⟩
  refine qO rfl ?_
  refine gY ?_
  refine cR call32 (r4_equal u0 p0 ⟨(RdT.flat ((x0 u0 (List.mem_of_getElem? f1)).pix.up 2 (by rfl)))⟩ ⟨(RdT.flat (p1.pix.up 0 (by rfl)))⟩ z0.flat) ?_
  intro _ n5
  refine nilO ⟨trivial,?_⟩
  refine qU [22]<|qU [23] ?_
  have o5:u0.v=p0.v:=(by have h1:=map_at (f:=Plane.v) f1;rw [hlb om,List.getElem?_append_right (by rw [List.length_map];omega),List.length_map,show _-j0.length=0 from by omega] at h1;exact (Option.some.inj h1).symm)
  refine qFix 101 _ true (decide_eq_true o5) ?_
  refine qO rfl ?_
  refine gY ?_
  refine cR call39 (l18_sane n5.flat) ?_
  intro _ p5
  refine nilO ⟨trivial,?_⟩
  refine qU [25]<|qU [26] ?_
  refine qN ?_
  refine tN<|retE<|retT [.bool true] ?_
  exact ⟨rfl,(p5.drops [0,0,0,0,0,0,0,0,0,0,0,0,0,0,0])⟩
 refine qO rfl ?_
 refine gY ?_
 refine sLpA z0 (q2.up 2 rfl) 0 (encPlane u0) (isAgg38 _) (sizeOf38 _) ?_
 refine nilO ⟨trivial,?_⟩
 refine qO rfl ?_
 refine gY ?_
 refine lA z0 1 0 4 (isAgg38 _) (sizeOf38 _) ?_
 refine nilO ⟨trivial,?_⟩
 refine qO rfl ?_
 refine gY ?_
 refine cR call32 (r4_equal u0 p0 ⟨(RdT.flat ((x0 u0 (List.mem_of_getElem? f1)).pix.up 2 (by rfl)))⟩ ⟨(RdT.flat (p1.pix.up 0 (by rfl)))⟩ z0.flat) ?_
 intro _ r5
 refine nilO ⟨trivial,?_⟩
 refine qU [22]<|qU [23] ?_
 have s5:u0.v=p0.v:=(by have h1:=map_at (f:=Plane.v) f1;rw [hlb om,List.getElem?_append_right (by rw [List.length_map];omega),List.length_map,show _-j0.length=0 from by omega] at h1;exact (Option.some.inj h1).symm)
 refine qFix 101 _ true (decide_eq_true s5) ?_
 refine qO rfl ?_
 refine gY ?_
 refine cR call39 (l18_sane r5.flat) ?_
 intro _ t5
 refine nilO ⟨trivial,?_⟩
 refine qU [25]<|qU [26] ?_
 refine qN ?_
 refine tN<|retE<|retT [.bool true] ?_
 exact ⟨rfl,(t5.drops [0,0,0,0,0,0,0,0,0,0,0,0,0,0,0])⟩
end Go.Proofs.YtmlhcafjelkjfaaGreat
