import Derived.Test.YtmlhcafjelkjfaaGreatP3Ab
import Derived.WalkKit
import Derived.Deep.Quiet
import Derived.KernelRfl
import Derived.Laws.BytesString
import Derived.Laws.Shifts
import Derived.Laws.IdiomStrings
import Derived.Test.YtmlhcafjelkjfaaGreatProg
import Derived.Test.YtmlhcafjelkjfaaGreatP3CkS
import Derived.Test.YtmlhcafjelkjfaaGreatP3Tri
namespace Go.Proofs.YtmlhcafjelkjfaaGreat
open Go Go.E Go.Proofs.Tryz
set_option linter.all false
set_option maxRecDepth 100000
set_option maxHeartbeats 2000000
variable {W w:World} {H:Chunk} {F:List Chunk}
def okG (ni:Int) (out:List Int) (s:List Int):Bool:=s.all fun x=>decide (x<ni\/x∈out)
def pickG (ni:Int) (out:List Int):List (List Int)->Int->Int
  |[],_=>-1
  |s::l,i=>if (decide (¬(ni+i)∈out)&&okG ni out s)=true then ni+i else pickG ni out l (i+1)
def goG (ni:Int) (D:List (List Int)):Nat->List Int->Option (List Int)
  |0,out=>some out
  |k+1,out=>if pickG ni out D 0<0 then none else goG ni D k (out++[pickG ni out D 0])
def canG (ni:Int) (D:List (List Int)) (out:List Int) (i:Nat):Prop:=∃s,D[i]?=some s/\¬(ni+((i:Nat):Int))∈out/\∀x∈s,x<ni\/x∈out
theorem ok_iff {ni:Int} {out s:List Int}:okG ni out s=true↔∀x∈s,x<ni\/x∈out:=by
  unfold okG;rw [List.all_eq_true];simp only [decide_eq_true_eq]
theorem pick_spec {ni : Int} (hni : 0 <= ni) {out : List Int} {D : List (List Int)} : ∀ (l : List (List Int)) (i : Nat), D.drop i = l ->
  (pickG ni out l (i : Int) < 0 /\ ∀ k, i <= k -> ¬ canG ni D out k) \/ (∃ k : Nat, i <= k /\ pickG ni out l (i : Int) = ni + (k : Int) /\ canG ni D out k /\ ∀ m, i <= m -> m < k -> ¬ canG ni D out m)
 | [], i, h => by
  left
  refine ⟨by unfold pickG; omega, ?_⟩
  rintro k hk ⟨s, hs, _⟩
  have h1 := (List.getElem?_eq_some_iff.1 hs).1
  have h2 := congrArg List.length h
  rw [List.length_drop] at h2
  simp only [List.length_nil] at h2; omega
 | s :: l, i, h => by
  have hs : D[i]? = some s := by
   have h1 := congrArg (fun x => x[0]?) h
   simpa [List.getElem?_drop] using h1
  have hl : D.drop (i + 1) = l := by
   have h1 := congrArg List.tail h
   simpa [List.tail_drop] using h1
  unfold pickG
  by_cases hc : (decide (¬ (ni + (i : Int)) ∈ out) && okG ni out s) = true
  ·right
   rw [if_pos hc]
   rw [Bool.and_eq_true, decide_eq_true_eq, ok_iff] at hc
   exact ⟨i, Nat.le_refl _, rfl, ⟨s, hs, hc.1, hc.2⟩, fun m h1 h2 => by omega⟩
  ·rw [if_neg hc]
   have hno : ¬ canG ni D out i := by
    rintro ⟨s', hs', h1, h2⟩
    rw [hs] at hs'; obtain rfl := Option.some.inj hs'
    apply hc
    rw [Bool.and_eq_true, decide_eq_true_eq, ok_iff]; exact ⟨h1, h2⟩
   have ih := pick_spec hni (out := out) (D := D) l (i + 1) hl
   rw [show (((i + 1 : Nat)) : Int) = (i : Int) + 1 by omega] at ih
   rcases ih with ⟨h1, h2⟩ | ⟨k, h1, h2, h3, h4⟩
   ·left
    refine ⟨h1, fun k hk => ?_⟩
    by_cases e : k = i
    ·rw [e]; exact hno
    ·exact h2 k om
   ·right
    refine ⟨k, om, h2, h3, fun m hm1 hm2 => ?_⟩
    by_cases e : m = i
    ·rw [e]; exact hno
    ·exact h4 m om hm2
theorem pick0 {ni:Int} (hni:0<=ni) {out:List Int} {D:List (List Int)}:
    (pickG ni out D 0<0/\∀k,¬canG ni D out k)\/(∃k:Nat,pickG ni out D 0=ni+(k:Int)/\canG ni D out k/\∀m,m<k->¬canG ni D out m):=by
  rcases pick_spec hni (out:=out) D 0 rfl with ⟨h1,h2⟩|⟨k,_,h2,h3,h4⟩
  · exact .inl ⟨h1,fun k=>h2 k (Nat.zero_le _)⟩
  · exact .inr ⟨k,h2,h3,fun m hm=>h4 m (Nat.zero_le _) hm⟩
def listG (ni:Int) (D:List (List Int)):Nat->List Int->List Int
  |0,out=>out
  |k+1,out=>if pickG ni out D 0<0 then out else listG ni D k (out++[pickG ni out D 0])
structure OutG (ni:Int) (D:List (List Int)) (out:List Int):Prop where
  r:∀x∈out,ni<=x/\x<ni+((D.length:Nat):Int)
  d:out.Nodup
theorem OutG.nil {ni:Int} {D:List (List Int)}:OutG ni D []:=⟨(fun x hx=>by cases hx),List.nodup_nil⟩
theorem OutG.add {ni:Int} {D:List (List Int)} {out:List Int} {k:Nat} (h:OutG ni D out) (hc:canG ni D out k):OutG ni D (out++[ni+(k:Int)]):=by
  obtain ⟨s,hs,h1,_⟩:=hc
  have hk:=(List.getElem?_eq_some_iff.1 hs).1
  refine ⟨fun x hx=>?_,?_⟩
  · rcases List.mem_append.1 hx with h2|h2
    · exact h.r x h2
    · rw [List.mem_singleton.1 h2];omega
  · rw [List.nodup_append]
    refine ⟨h.d,by simp,?_⟩
    intro a ha b hb
    rw [List.mem_singleton.1 hb]
    rintro rfl;exact h1 ha
theorem nodup_le {n:Nat}:∀{m:Nat} {l:List Nat},l.Nodup->(∀x∈l,x<n)->l.length=m->m<=n:=by
 induction n with
 |zero=>
  intro m l _ h2 h3
  cases l with
  |nil=>simp at h3;omega
  |cons x l=>have:=h2 x List.mem_cons_self;omega
 |succ n ih=>
  intro m l h1 h2 h3
  have h4:=ih (m:=(l.filter (fun x=>decide (x≠n))).length) (l:=l.filter (fun x=>decide (x≠n))) (h1.filter _) (fun x hx=>by
   have:=List.mem_filter.1 hx
   have h5:=h2 x this.1
   have h6:=of_decide_eq_true this.2
   omega) rfl
  have h5:l.length<=(l.filter (fun x=>decide (x≠n))).length+1:=by
   clear h2 h3 h4 ih
   induction l with
   |nil=>simp
   |cons y l ih2=>
    rw [List.nodup_cons] at h1
    rw [List.filter_cons]
    by_cases e:y=n
    ·subst e
     rw [if_neg (by simp)]
     have h7:l.filter (fun x=>decide (x≠y))=l:=by
      rw [List.filter_eq_self]
      intro z hz
      refine decide_eq_true ?_
      rintro rfl;exact h1.1 hz
     rw [h7];simp
    ·rw [if_pos (by simpa using e)]
     have:=ih2 h1.2
     simp only [List.length_cons];omega
  omega
theorem OutG.len {ni:Int} {D:List (List Int)} {out:List Int} (h:OutG ni D out):out.length<=D.length:=by
  have h1:(out.map fun x=>(x-ni).toNat).Nodup:=by
    rw [List.nodup_iff_pairwise_ne,List.pairwise_map]
    refine (List.nodup_iff_pairwise_ne.1 h.d).imp_of_mem ?_
    intro a b ha hb hab
    have:=h.r a ha;have:=h.r b hb;omega
  have:=nodup_le (n:=D.length) h1 (fun x hx=>by
    obtain ⟨y,hy,rfl⟩:=List.mem_map.1 hx
    have:=h.r y hy;omega) (List.length_map _)
  omega
theorem go_list {ni : Int} (hni : 0 <= ni) {D : List (List Int)} : ∀ (k : Nat) {out : List Int}, OutG ni D out -> out.length + k = D.length ->
  ((goG ni D k out = some (listG ni D (k + 1) out) /\ (listG ni D (k + 1) out).length = D.length) \/ (goG ni D k out = none /\ (listG ni D (k + 1) out).length < D.length)) /\ OutG ni D (listG ni D (k + 1) out)
 | 0, out, h, hl => by
  have e : listG ni D 1 out = out := by
   unfold listG
   split
   ·rfl
   ·rename_i hp
    rcases pick0 hni (out := out) (D := D) with h1 | ⟨k, h1, h2, _⟩
    ·exact absurd h1.1 hp
    ·have := (h.add h2).len
     rw [List.length_append, List.length_singleton] at this; omega
  rw [e]
  exact ⟨.inl ⟨rfl, om⟩, h⟩
 | k + 1, out, h, hl => by
  unfold goG listG
  rcases pick0 hni (out := out) (D := D) with h1 | ⟨m, h1, h2, _⟩
  ·rw [if_pos h1.1, if_pos h1.1]
   exact ⟨.inr ⟨rfl, om⟩, h⟩
  ·rw [if_neg om, if_neg om, h1]
   exact go_list hni k (h.add h2) (by rw [List.length_append, List.length_singleton]; omega)
theorem pick_ord {ni:Int} {out:List Int}:∀(ss:List StageV) (i:Int),ordPick ni out ss i=pickG ni out (ss.map srcs) i
  |[],_=>rfl
  |s::l,i=>by
    unfold ordPick
    rw [List.map_cons]
    unfold pickG
    rw [pick_ord l (i+1)];rfl
theorem go_ord {ni:Int} {ss:List StageV}:∀(k:Nat) (out:List Int),ordGo ni ss k out=goG ni (ss.map srcs) k out
  |0,_=>rfl
  |k+1,out=>by
    unfold ordGo goG
    rw [pick_ord,go_ord k]
def listV (j:JobV):List Int:=listG j.inputs.length (j.stages.map srcs) (j.stages.length+1) []
theorem ord_list {j:JobV} (h:chkCode j=0):(ordV j=if (listV j).length<j.stages.length then ([],7) else (listV j,0))/\OutG j.inputs.length (j.stages.map srcs) (listV j):=by
  have h1:=go_list (ni:=j.inputs.length) (by omega) (D:=j.stages.map srcs) j.stages.length OutG.nil (by simp)
  refine ⟨?_,h1.2⟩
  unfold ordV
  rw [if_pos h,go_ord]
  rcases h1.1 with ⟨h2,h3⟩|⟨h2,h3⟩
  · rw [h2,if_neg (by unfold listV;rw [h3,List.length_map];omega)];rfl
  · rw [h2,if_pos (by unfold listV;rw [List.length_map] at h3;omega)]
def limC (j:JobV):Int:=if 1<=j.inputs.length/\1<=j.stages.length/\j.inputs.length+j.stages.length<=16/\1<=j.outputs.length/\j.outputs.length<=16 then (if 0<=j.priority/\j.priority<4 then 0 else 2) else 5
def namC (j:JobV):Int:=if j.stages.all (fun s=>inR (j.inputs.length+j.stages.length) (srcs s))=true then (if inR (j.inputs.length+j.stages.length) j.outputs=true then 0 else 6) else 6
theorem chk_lim {j:JobV}:chkCode j=if limC j=0 then namC j else limC j:=by
  unfold chkCode limC namC
  split
  · split
    · rfl
    · rfl
  · rfl
def KN (ni:Nat) (out:List Int) (ks:List Bool):Prop:=ks.length=16/\∀x:Nat,x<16->(ks[x]?=some true↔(x<ni\/((x:Nat):Int)∈out))
theorem KN.at {ni:Nat} {out:List Int} {ks:List Bool} {x:Nat} {y:Int} {b:Bool} (h:KN ni out ks) (hx:ks[x]?=some b) (hy:y=(x:Int)):b=true↔(y<(ni:Int)\/y∈out):=by
  subst hy
  have h1:=(List.getElem?_eq_some_iff.1 hx).1
  have h2:=h.2 x (by rw [<-h.1];exact h1)
  rw [hx] at h2
  simp only [Option.some.injEq] at h2
  rw [h2]
  exact ⟨fun h=>h.elim (fun h=> .inl (by omega)) .inr,fun h=>h.elim (fun h=> .inl (by omega)) .inr⟩
theorem KN.nil:KN 0 [] (List.replicate 16 false):=by
  refine ⟨rfl,fun x hx=>?_⟩
  rw [List.getElem?_replicate,if_pos hx];simp
theorem KN.set {ni:Nat} {out:List Int} {ks:List Bool} {k:Nat} (h:KN ni out ks) (hk:k<16):(ks.set k true).length=16/\∀x:Nat,x<16->((ks.set k true)[x]?=some true↔(x=k\/x<ni\/(x:Int)∈out)):=by
  refine ⟨by rw [List.length_set];exact h.1,fun x hx=>?_⟩
  rw [List.getElem?_set]
  by_cases e:k=x
  · rw [if_pos e,if_pos (by rw [h.1];omega)];exact ⟨fun _=> .inl e.symm,fun _=>rfl⟩
  · rw [if_neg e,h.2 x hx]
    exact ⟨fun a=> .inr a,fun a=>a.resolve_left (fun q=>e q.symm)⟩
theorem KN.inp {i:Nat} {ks:List Bool} (h:KN i [] ks) (hi:i<16):KN (i+1) [] (ks.set i true):=by
  have h1:=h.set hi
  refine ⟨h1.1,fun x hx=>?_⟩
  rw [h1.2 x hx];simp;omega
theorem KN.add {ni:Nat} {out:List Int} {ks:List Bool} {y:Int} (h:KN ni out ks) (hy:0<=y/\y<16):KN ni (out++[y]) (ks.set y.toNat true):=by
  have h1:=h.set (k:=y.toNat) (by omega)
  refine ⟨h1.1,fun x hx=>?_⟩
  rw [h1.2 x hx,List.mem_append,List.mem_singleton]
  constructor
  · rintro (h|h|h)
    · exact .inr (.inr (by omega))
    · exact .inl h
    · exact .inr (.inl h)
  · rintro (h|h|h)
    · exact .inr (.inl h)
    · exact .inr (.inr h)
    · exact .inl (by omega)
def possB (ni:Nat) (out:List Int) (s:StageV) (i:Nat):Bool:=decide (¬(((ni:Nat):Int)+((i:Nat):Int))∈out)&&ordOK ni out s
theorem poss_no1 {ni:Nat} {out:List Int} {s:StageV} {i:Nat} (h:((ni:Int)+(i:Int))∈out):possB ni out s i=false:=by unfold possB;rw [decide_eq_false (by simpa using h)];rfl
theorem poss_no2 {ni:Nat} {out:List Int} {s:StageV} {i k:Nat} {x:Int} (hx:(srcs s)[k]?=some x) (h:¬(x<(ni:Int)\/x∈out)):possB ni out s i=false:=by
  unfold possB ordOK
  rw [all_false_at hx (decide_eq_false h),Bool.and_false]
theorem poss_yes {ni:Nat} {out:List Int} {s:StageV} {i:Nat} (h1:¬((ni:Int)+(i:Int))∈out) (h2:ordOK ni out s=true):possB ni out s i=true:=by unfold possB;rw [h2,decide_eq_true h1];rfl
theorem pick_no {ni:Nat} {out:List Int} {ss:List StageV} {j:Nat} {s:StageV} (hs:ss[j]?=some s) (h:¬possB ni out s j=true):ordPick ni out (ss.drop j) (j:Int)=ordPick ni out (ss.drop (j+1)) ((j:Int)+1):=by
  rw [drop_at hs,ordPick,if_neg (show ¬(decide _&&ordOK _ _ _)=true from h)]
theorem pick_yes {ni:Nat} {out:List Int} {ss:List StageV} {j:Nat} {s:StageV} (hs:ss[j]?=some s) (h:possB ni out s j=true):ordPick ni out (ss.drop j) (j:Int)=(ni:Int)+(j:Int):=by
  rw [drop_at hs,ordPick,if_pos (show (decide _&&ordOK _ _ _)=true from h)]
theorem OutG.snoc {ni:Int} {D:List (List Int)} {out:List Int} (hni:0<=ni) (h:OutG ni D out) (hp:¬pickG ni out D 0<0):OutG ni D (out++[pickG ni out D 0]):=by
  rcases pick0 hni (out:=out) (D:=D) with h1|⟨k,h1,h2,_⟩
  · exact absurd h1.1 hp
  · rw [h1];exact h.add h2
theorem p17_limits (p:Job) (hp:Job.Ok [H] p) (hb:p.inputs.n<=1000000/\p.stages.n<=1000000/\p.outputs.n<=1000000) (hS:Sat W w (H::F)):
  Ro prog 136 #[.agg (encJob p).toArray] (I (limC p.v)) W w (H::F):=by
 have hl_p_inputs:=hp.inputs.le;have hn_p_inputs:=hp.inputs.len
 have hl_p_stages:=hp.stages.le;have hn_p_stages:=hp.stages.len
 have hl_p_outputs:=hp.outputs.le;have hn_p_outputs:=hp.outputs.len
 have hmi:(p.inputs.l.map Plane.v).length=p.inputs.n:=by simp [hn_p_inputs]
 have hms:(p.stages.l.map Stage.v).length=p.stages.n:=by simp [hn_p_stages]
 refine callsA 41 func136 rfl<|sR<|sBox hS (.agg (encJob p).toArray) (encJob p).toArray fun c0 _ b0=>pu1<|nT<|seqE<|drawE [] [(1,⟨c0,0,none⟩, .slice p.inputs.a p.inputs.n p.inputs.k),(4,⟨c0,1,none⟩, .slice p.stages.a p.stages.n p.stages.k),(7,⟨c0,2,none⟩, .slice p.outputs.a p.outputs.n p.outputs.k)] [(true,[0,3,6]),(true,[1]),(true,[2,9]),(true,[4]),(true,[5,10]),(true,[7]),(true,[8,11])] rfl kr ⟨cI b0 0,cI b0 0,cI b0 0,trivial⟩ ?_
 have a0:=b0.drew
 refine wU [0,3,6]<|wLd (.slice p.inputs.a p.inputs.n p.inputs.k) 0 isAgg25<|wU [2,9]<|wLd (.slice p.stages.a p.stages.n p.stages.k) 1 isAgg26<|wU [5,10]<|wLd (.slice p.outputs.a p.outputs.n p.outputs.k) 2 isAgg22<|wU [8,11]<|wN<|tN<|seqE<|sR<|pu3<|sE 17 (p.inputs.n:Int) 0 (fun d0=>?_) (fun d0=>?_)
 ·refine pu9<|zC<|pu1<|zR<|retT [I 5] ?_
  have e0:=(a0.dropAt 0 rfl)
  have hk:limC p.v=5:=by unfold limC;rw [if_neg (by simp only [Job.v];omega)]
  exact ⟨by rw [hk];rfl,e0⟩
 refine pu4<|sE 21 (p.stages.n:Int) 0 (fun f0=>?_) (fun f0=>?_)
 ·refine pu5<|zC<|pu1<|zR<|retT [I 5] ?_
  have g0:=(a0.dropAt 0 rfl)
  have hk:limC p.v=5:=by unfold limC;rw [if_neg (by simp only [Job.v];omega)]
  exact ⟨by rw [hk];rfl,g0⟩
 refine pu2<|gY<|sAdd (p.inputs.n:Int) (p.stages.n:Int)<|pu2<|nT<|cD (((p.inputs.n:Int)+(p.stages.n:Int))>16) (fun h0=>?_) (fun h0=>?_)
 ·refine sR<|pu1<|zR<|retT [I 5] ?_
  have i0:=(a0.dropAt 0 rfl)
  have hk:limC p.v=5:=by unfold limC;rw [if_neg (by simp only [Job.v];omega)]
  exact ⟨by rw [hk];rfl,i0⟩
 refine kT<|seqE<|sR<|pu3<|sE 29 (p.outputs.n:Int) 0 (fun j0=>?_) (fun j0=>?_)
 ·refine pu3<|zC<|pu1<|zR<|retT [I 5] ?_
  have k0:=(a0.dropAt 0 rfl)
  have hk:limC p.v=5:=by unfold limC;rw [if_neg (by simp only [Job.v];omega)]
  exact ⟨by rw [hk];rfl,k0⟩
 refine pu3<|nT<|cD ((p.outputs.n:Int)>16) (fun l0=>?_) (fun l0=>?_)
 ·refine sR<|pu1<|zR<|retT [I 5] ?_
  have m0:=(a0.dropAt 0 rfl)
  have hk:limC p.v=5:=by unfold limC;rw [if_neg (by simp only [Job.v];omega)]
  exact ⟨by rw [hk];rfl,m0⟩
 refine kT<|seqE<|sR<|pu1<|sL a0 0 3 (I p.priority) (isAgg3 _)<|pu2<|sD 36 (p.priority<0) (fun n0=>?_) (fun n0=>?_)
 ·refine pu4<|zC<|pu1<|zR<|retT [I 2] ?_
  have o0:=(a0.dropAt 0 rfl)
  have hk:limC p.v=2:=by unfold limC;rw [if_pos (by simp only [Job.v];omega),if_neg (by simp only [Job.v];omega)]
  exact ⟨by rw [hk];rfl,o0⟩
 refine pu1<|gY<|sL a0 0 3 (I p.priority) (isAgg3 _)<|pu2<|nT<|cD (p.priority>=4) (fun p0=>?_) (fun p0=>?_)
 ·refine sR<|pu1<|zR<|retT [I 2] ?_
  have q0:=(a0.dropAt 0 rfl)
  have hk:limC p.v=2:=by unfold limC;rw [if_pos (by simp only [Job.v];omega),if_neg (by simp only [Job.v];omega)]
  exact ⟨by rw [hk];rfl,q0⟩
 refine kS<|pu1<|zE<|retT [I 0] ?_
 have r0:=(a0.dropAt 0 rfl)
 have hk:limC p.v=0:=by unfold limC;rw [if_pos (by simp only [Job.v];omega),if_pos (by simp only [Job.v];omega)]
 exact ⟨by rw [hk];rfl,r0⟩
theorem p17_names (p:Job) (hp:Job.Ok [H] p) (hb:p.inputs.n<=1000000/\p.stages.n<=1000000/\p.outputs.n<=1000000) (hS:Sat W w (H::F)):
  Ro prog 137 #[.agg (encJob p).toArray] (I (namC p.v)) W w (H::F):=by
 have hl_p_inputs:=hp.inputs.le;have hn_p_inputs:=hp.inputs.len
 have hl_p_stages:=hp.stages.le;have hn_p_stages:=hp.stages.len
 have hl_p_outputs:=hp.outputs.le;have hn_p_outputs:=hp.outputs.len
 have hmi:(p.inputs.l.map Plane.v).length=p.inputs.n:=by simp [hn_p_inputs]
 have hms:(p.stages.l.map Stage.v).length=p.stages.n:=by simp [hn_p_stages]
 refine callsA 55 func137 rfl ?_
 refine sR ?_
 refine sBox hS (.agg (encJob p).toArray) (encJob p).toArray ?_
 intro b0 _ g0
 refine pu1<|zS<|pu1 ?_
 refine sL g0 0 0 (.slice p.inputs.a p.inputs.n p.inputs.k) (isAgg25 _) ?_
 refine pu2 ?_
 refine sL g0 0 1 (.slice p.stages.a p.stages.n p.stages.k) (isAgg26 _) ?_
 refine pu1 ?_
 refine sAdd (p.inputs.n:Int) (p.stages.n:Int) ?_
 refine pu1<|zQ<|pu1 ?_
 refine sL g0 0 1 (.slice p.stages.a p.stages.n p.stages.k) (isAgg26 _) ?_
 refine pu2<|nT<|blockE ?_
 refine loopA (γ:=Nat) (fun i=>[(1,Pt b0 0),(3,I ((p.inputs.n:Int)+(p.stages.n:Int))),(18, .slice p.stages.a p.stages.n p.stages.k),(19,I (p.stages.n:Int)),(20,I (i:Int))]) (fun i w=>Sat W w ([(b0, .cells (encJob p).toArray 28 (0,0))]::H::F)/\i<=p.stages.n/\(((p.stages.l.map Stage.v).take i).all (fun s=>inR ((p.inputs.l.map Plane.v).length+(p.stages.l.map Stage.v).length:Int) (srcs s))=true)) (fun i=>p.stages.n-i) 0 ⟨g0,om,by rfl⟩ ?_
 rintro i ρ _ ⟨h0,hi,hE⟩
 refine sR<|pu1<|nT<|seqE ?_
 refine cD ((i:Int)<(p.stages.n:Int)) (fun o0=>?_) (fun o0=>?_)
 rotate_left
 ·refine exitE<|xB<|tN<|seqE<|seqE ?_
  have hst:(p.stages.l.map Stage.v).all (fun s=>inR ((p.inputs.l.map Plane.v).length+(p.stages.l.map Stage.v).length:Int) (srcs s))=true:=all_of_take hE om
  refine rE<|pu1 ?_
  refine sL h0 0 2 (.slice p.outputs.a p.outputs.n p.outputs.k) (isAgg22 _) ?_
  refine pu2<|nT<|blockE ?_
  refine loopA (γ:=Nat) (fun m=>[(3,I ((p.inputs.n:Int)+(p.stages.n:Int))),(41, .slice p.outputs.a p.outputs.n p.outputs.k),(42,I (p.outputs.n:Int)),(43,I (m:Int))]) (fun m w=>Sat W w ([(b0, .cells (encJob p).toArray 28 (0,0))]::H::F)/\m<=p.outputs.n/\(inR ((p.inputs.l.map Plane.v).length+(p.stages.l.map Stage.v).length:Int) (p.outputs.l.take m)=true)) (fun m=>p.outputs.n-m) 0 ⟨h0,om,by rfl⟩ ?_
  rintro m ρ _ ⟨c0,hm,hF⟩
  refine sR<|pu1<|nT<|seqE ?_
  refine cD ((m:Int)<(p.outputs.n:Int)) (fun p0=>?_) (fun p0=>?_)
  rotate_left
  ·refine exitE<|xB<|tN<|sR<|pu1<|zE<|retT [I 0] ?_
   have q0:=(c0.dropAt 0 rfl)
   have ho:=all_of_take hF om
   have hk:namC p.v=0:=by unfold namC;rw [if_pos (by exact hst),if_pos (by exact ho)]
   exact ⟨by rw [hk];rfl,q0⟩
  refine kT<|seqE<|blockE<|sR ?_
  refine sIdx hp.outputs (m:Int) runUnderlying22 sizeOf3 ?_
  intro j0 _ _ i0 r0
  rw [Int.toNat_natCast] at i0
  refine sLp c0 (r0.up 1 rfl) 0 (I j0) (isAgg3 _) ?_
  refine pu1<|zS<|pu3 ?_
  refine sD 49 (j0<0) (fun s0=>?_) (fun s0=>?_)
  ·refine pu4<|zC<|pu1<|zB<|tR<|tK<|retT [I 6] ?_
   have t0:=(c0.dropAt 0 rfl)
   have ho:=all_false_at (p:=fun x=>decide (0<=x/\x<((p.inputs.l.map Plane.v).length+(p.stages.l.map Stage.v).length:Int))) i0 (decide_eq_false om)
   have hk:namC p.v=6:=by unfold namC;rw [if_pos (by exact hst),if_neg (by exact fun h=>Bool.false_ne_true (ho.symm.trans h))]
   exact ⟨by rw [hk];rfl,t0⟩
  refine pu4<|nT ?_
  refine cD (j0>=((p.inputs.n:Int)+(p.stages.n:Int))) (fun u0=>?_) (fun u0=>?_)
  rotate_left
  ·refine skipE<|bN<|tN<|rE ?_
   refine sAdd (m:Int) 1 ?_
   refine pu1<|nT ?_
   exact ⟨m+1,od,alA,c0,om,all_succ hF i0 (decide_eq_true om)⟩
  refine sR<|pu1<|zB<|tR<|tK<|retT [I 6] ?_
  have v0:=(c0.dropAt 0 rfl)
  have ho:=all_false_at (p:=fun x=>decide (0<=x/\x<((p.inputs.l.map Plane.v).length+(p.stages.l.map Stage.v).length:Int))) i0 (decide_eq_false om)
  have hk:namC p.v=6:=by unfold namC;rw [if_pos (by exact hst),if_neg (by exact fun h=>Bool.false_ne_true (ho.symm.trans h))]
  exact ⟨by rw [hk];rfl,v0⟩
 refine kT<|seqE<|blockE<|sR ?_
 refine sIdx hp.stages (i:Int) runUnderlying26 sizeOf53 ?_
 intro a0 _ _ d0 w0
 rw [Int.toNat_natCast] at d0
 refine sLpA h0 (w0.up 1 rfl) 0 (encStage a0) (isAgg53 _) (sizeOf53 _) ?_
 refine sAlloc h0 zeroValue53 ?_
 intro x0 _ y0
 refine sTl y0 0 (encStage a0) sizeOf53 ?_
 intro _ n0
 refine zS ?_
 refine lA n0 0 0 18 (isAgg53 _) (sizeOf53 _) ?_
 refine cX call59 (p15_sources a0 ((hp.stagesD a0 (List.mem_of_getElem? d0)).of_mem (mem_flat1 2 (by rfl))) n0.flat) ?_
 rintro _ _ ⟨z0,e0,a1,b1,rfl,k0,c1⟩
 have d1:=c1.unflat1
 have hn_az_20:=k0.len;have hl_az_20:=k0.le
 have v1:1<=(srcs a0.v).length/\(srcs a0.v).length<=2:=srcs_len _
 refine pu2<|nT<|blockE ?_
 refine loopA (γ:=Nat) (fun k=>[(1,Pt b0 0),(3,I ((p.inputs.n:Int)+(p.stages.n:Int))),(18, .slice p.stages.a p.stages.n p.stages.k),(19,I (p.stages.n:Int)),(20,I (i:Int)),(25, .slice z0 e0 a1),(26,I (e0:Int)),(27,I (k:Int))]) (fun k w=>Sat W w (b1::[(x0, .cells (encStage a0).toArray 53 (0,0))]::[(b0, .cells (encJob p).toArray 28 (0,0))]::H::F)/\k<=e0/\(inR ((p.inputs.l.map Plane.v).length+(p.stages.l.map Stage.v).length:Int) ((srcs a0.v).take k)=true)) (fun k=>e0-k) 0 ⟨d1,om,by rfl⟩ ?_
 rintro k ρ _ ⟨f0,hk,hK⟩
 refine sR<|pu1<|nT<|seqE ?_
 refine cD ((k:Int)<(e0:Int)) (fun e1=>?_) (fun e1=>?_)
 rotate_left
 ·refine exitE<|xB<|bN<|tN<|rE ?_
  refine sAdd (i:Int) 1 ?_
  refine pu1<|nT ?_
  exact ⟨i+1,od,alA,(f0.drops [0,0]),om,all_succ hE (map_at (f:=Stage.v) d0) (show inR _ (srcs a0.v)=true from all_of_take hK om)⟩
 refine kT<|seqE<|blockE<|sR ?_
 refine sIdxO k0 (k:Int) k runUnderlying22 sizeOf3 ?_
 intro l0 _ _ m0 g1 _
 refine sLp f0 (g1.up 0 rfl) 0 (I l0) (isAgg3 _) ?_
 refine pu1<|zS<|pu3 ?_
 refine sD 33 (l0<0) (fun h1=>?_) (fun h1=>?_)
 ·refine pu4<|zC<|pu1<|zB<|tR<|bR<|tK<|tR<|tK<|retT [I 6] ?_
  have i1:=(f0.drops [0,0,0])
  have hs1:=all_false_at (p:=fun x=>decide (0<=x/\x<((p.inputs.l.map Plane.v).length+(p.stages.l.map Stage.v).length:Int))) m0 (decide_eq_false om)
  have hs2:=all_false_at (p:=fun s=>inR ((p.inputs.l.map Plane.v).length+(p.stages.l.map Stage.v).length:Int) (srcs s)) (map_at (f:=Stage.v) d0) hs1
  have hk:namC p.v=6:=by unfold namC;rw [if_neg (by exact fun h=>Bool.false_ne_true (hs2.symm.trans h))]
  exact ⟨by rw [hk];rfl,i1⟩
 refine pu4<|nT ?_
 refine cD (l0>=((p.inputs.n:Int)+(p.stages.n:Int))) (fun j1=>?_) (fun j1=>?_)
 rotate_left
 ·refine skipE<|bN<|tN<|rE ?_
  refine sAdd (k:Int) 1 ?_
  refine pu1<|nT ?_
  exact ⟨k+1,od,alA,f0,om,all_succ hK m0 (decide_eq_true om)⟩
 refine sR<|pu1<|zB<|tR<|bR<|tK<|tR<|tK<|retT [I 6] ?_
 have k1:=(f0.drops [0,0,0])
 have hs1:=all_false_at (p:=fun x=>decide (0<=x/\x<((p.inputs.l.map Plane.v).length+(p.stages.l.map Stage.v).length:Int))) m0 (decide_eq_false om)
 have hs2:=all_false_at (p:=fun s=>inR ((p.inputs.l.map Plane.v).length+(p.stages.l.map Stage.v).length:Int) (srcs s)) (map_at (f:=Stage.v) d0) hs1
 have hk:namC p.v=6:=by unfold namC;rw [if_neg (by exact fun h=>Bool.false_ne_true (hs2.symm.trans h))]
 exact ⟨by rw [hk];rfl,k1⟩
theorem p17_possible {bk bi bj:Nat} {p:Job} {ks:List Bool} {out:List Int} {i:Nat} {q:Stage} (hp:Job.Ok [H] p) (hK:KN p.inputs.n out ks) (hq:p.stages.l[i]?=some q) (hb:p.inputs.n+p.stages.n<=16) (hsr:∀x∈srcs q.v,0<=x/\x<16) (hS:Sat W w ((Tri bk 172 [] (ks.flatMap encKB) [])::[(bi, .cells #[I (p.inputs.n:Int)] 3 (0,0))]::[(bj, .cells (encJob p).toArray 28 (0,0))]::H::F)):
  Calls prog 176 #[I (i:Int),Pt bk 0,Pt bi 0,Pt bj 0] w fun e w'=>e= .returned (.bool (possB p.inputs.n out q.v i))/\Sat W w' ((Tri bk 172 [] (ks.flatMap encKB) [])::[(bi, .cells #[I (p.inputs.n:Int)] 3 (0,0))]::[(bj, .cells (encJob p).toArray 28 (0,0))]::H::F):=by
 have hk16:=hK.1;have hqr:=(List.getElem?_eq_some_iff.1 hq).1;have hsl:=srcs_len q.v
 have hl_p_inputs:=hp.inputs.le;have hn_p_inputs:=hp.inputs.len
 have hl_p_stages:=hp.stages.le;have hn_p_stages:=hp.stages.len
 have hl_p_outputs:=hp.outputs.le;have hn_p_outputs:=hp.outputs.len
 refine callsA 29 func176 rfl<|sR<|pu1<|zQ<|sL hS 1 0 (I (p.inputs.n:Int)) (isAgg3 _)<|pu1<|sAdd (p.inputs.n:Int) (i:Int) ?_
 obtain ⟨k0,d0⟩:=at_some hk16 (k:=(((p.inputs.n:Int)+(i:Int)).toNat)) om
 refine sIdxA (b:=bk) (off:=0) ((p.inputs.n:Int)+(i:Int)) (((p.inputs.n:Int)+(i:Int)).toNat) runUnderlying172 sizeOf4<|sLp hS (ptr_up 0 rfl (tri_el (sz:=1) (n0:=0) fR d0)) 0 (.bool k0) (isAgg4 _)<|nT<|cB k0 (fun e0=>?_) (fun e0=>?_)
 ·refine sR<|pu1<|zR<|retT [.bool false] ?_
  have he:possB p.inputs.n out q.v i=false:=poss_no1 (((hK.at d0 om).1 e0).resolve_left om)
  exact ⟨by rw [he];rfl,hS⟩
 refine kT<|seqE<|seqE ?_
 have hnk:=e0
 refine rE<|pu1<|sL hS 2 1 (.slice p.stages.a p.stages.n p.stages.k) (isAgg26 _)<|pu1<|sIdx hp.stages (i:Int) runUnderlying26 sizeOf53 fun m0 _ _ f0 o0=>?_
 rw [Int.toNat_natCast] at f0
 obtain rfl:q=m0:=Option.some.inj (hq.symm.trans f0)
 refine sLpA hS (o0.up 3 rfl) 0 (encStage q) (isAgg53 _) (sizeOf53 _)<|cX call59 (p15_sources q ((hp.stagesD q (List.mem_of_getElem? f0)).of_mem (mem_flat1 3 (by rfl))) hS.flat) ?_
 rintro _ _ ⟨p0,a0,q0,r0,rfl,g0,s0⟩
 have t0:=s0.unflat1
 have hn_az_12:=g0.len;have hl_az_12:=g0.le
 have b1:1<=(srcs q.v).length/\(srcs q.v).length<=2:=srcs_len _
 refine pu2<|nT<|blockE<|loopA (γ:=Nat) (fun k=>[(1,Pt bk 0),(18, .slice p0 a0 q0),(19,I (a0:Int)),(20,I (k:Int))]) (fun k w=>Sat W w (r0::(Tri bk 172 [] (ks.flatMap encKB) [])::[(bi, .cells #[I (p.inputs.n:Int)] 3 (0,0))]::[(bj, .cells (encJob p).toArray 28 (0,0))]::H::F)/\k<=a0/\(((srcs q.v).take k).all (fun x=>decide (x<(p.inputs.n:Int)\/x∈out))=true)) (fun k=>a0-k) 0 ⟨t0,om,by rfl⟩ ?_
 rintro k ρ _ ⟨b0,hk,hE⟩
 refine sR<|pu1<|nT<|seqE<|cD ((k:Int)<(a0:Int)) (fun u0=>?_) (fun u0=>?_)
 rotate_left
 ·refine exitE<|xB<|tN<|sR<|pu1<|zE<|retT [.bool true] ?_
  have v0:=(b0.dropAt 0 rfl)
  have he:possB p.inputs.n out q.v i=true:=poss_yes (fun h=>hnk ((hK.at d0 om).2 (.inr h))) (all_of_take hE om)
  exact ⟨by rw [he];rfl,v0⟩
 refine kT<|seqE<|blockE<|sR<|sIdxO g0 (k:Int) k runUnderlying22 sizeOf3 fun c0 _ _ h0 w0 _=>?_
 have hsb_x_21:=hsr c0 (List.mem_of_getElem? h0)
 refine sLp b0 (w0.up 0 rfl) 0 (I c0) (isAgg3 _)<|pu1<|zS<|pu1 ?_
 obtain ⟨l0,i0⟩:=at_some hk16 (k:=(c0.toNat)) om
 refine sIdxA (b:=bk) (off:=0) c0 (c0.toNat) runUnderlying172 sizeOf4<|sLp b0 (ptr_up 1 rfl (tri_el (sz:=1) (n0:=0) fR i0)) 0 (.bool l0) (isAgg4 _)<|pu1<|nT<|cBn l0 (fun j0=>?_) (fun j0=>?_)
 ·exact skipE<|bN<|tN<|rE<|sAdd (k:Int) 1<|pu1<|nT<|⟨k+1,od,alA,b0,om,all_succ hE h0 (decide_eq_true ((hK.at i0 om).1 j0))⟩
 refine sR<|pu1<|zB<|tR<|tK<|retT [.bool false] ?_
 have x0:=(b0.dropAt 0 rfl)
 have he:possB p.inputs.n out q.v i=false:=poss_no2 h0 (fun h=>j0 ((hK.at i0 om).2 h))
 exact ⟨by rw [he];rfl,x0⟩
theorem p17_list (p:Job) (hp:Job.Ok [H] p) (hb:p.inputs.n+p.stages.n<=16) (hsr:∀z∈p.stages.l,∀x∈srcs z.v,0<=x/\x<((p.inputs.n+p.stages.n:Nat):Int)) (hS:Sat W w (H::F)):
  Calls prog 138 #[.agg (encJob p).toArray] w fun e w'=>∃(az:Option Addr) (nz kz:Nat) (G:Chunk),e= .returned (.slice az nz kz)/\OwnT Go.E.encI 3 1 az nz kz (listV p.v) G/\Sat W w' (G::H::F):=by
 have hl_p_inputs:=hp.inputs.le;have hn_p_inputs:=hp.inputs.len
 have hl_p_stages:=hp.stages.le;have hn_p_stages:=hp.stages.len
 have hl_p_outputs:=hp.outputs.le;have hn_p_outputs:=hp.outputs.len
 have hmi:(p.inputs.l.map Plane.v).length=p.inputs.n:=by simp [hn_p_inputs]
 have hms:(p.stages.l.map Stage.v).length=p.stages.n:=by simp [hn_p_stages]
 have hsrc:∀z∈p.stages.l,∀x∈srcs z.v,0<=x/\x<16:=fun z hz x hx=>by have h:=hsr z hz x hx;omega
 refine callsA 43 func138 rfl<|sR<|sBox hS (.agg (encJob p).toArray) (encJob p).toArray fun b0 _ m0=>pu1<|zS<|sAlloc m0 zeroValue172 fun a0 _ n0=>nilO ?_
 have g0:Sat W _ ((Tri a0 172 [] ((List.replicate 16 false).flatMap encKB) [])::[(b0, .cells (encJob p).toArray 28 (0,0))]::H::F):=n0
 refine tN<|sR<|pu1<|sL g0 1 0 (.slice p.inputs.a p.inputs.n p.inputs.k) (isAgg25 _)<|pu1<|sAlloc g0 zeroValue3 fun c0 _ o0=>?_
 refine sT o0 0 0 (I (p.inputs.n:Int)) [I (p.inputs.n:Int)] #[I (p.inputs.n:Int)] sizeOf3 fun _ h0=>zQ<|sL h0 0 0 (I (p.inputs.n:Int)) (isAgg3 _)<|pu1<|nT<|blockE<|loopA (γ:=Nat×(List Bool)) (fun ⟨i,ks⟩=>[(1,Pt b0 0),(3,Pt a0 0),(4,Pt c0 0),(13,I (p.inputs.n:Int)),(14,I (i:Int))]) (fun ⟨i,ks⟩ w=>Sat W w ([(c0, .cells #[I (p.inputs.n:Int)] 3 (0,0))]::(Tri a0 172 [] (ks.flatMap encKB) [])::[(b0, .cells (encJob p).toArray 28 (0,0))]::H::F)/\i<=p.inputs.n/\(KN i [] ks)) (fun ⟨i,ks⟩=>p.inputs.n-i) (0,(List.replicate 16 false)) ⟨h0,om,KN.nil⟩ ?_
 rintro ⟨i,ks⟩ ρ _ ⟨i0,hi,hKi⟩
 have hk16:=hKi.1
 refine sR<|pu1<|nT<|seqE<|cD ((i:Int)<(p.inputs.n:Int)) (fun p0=>?_) (fun p0=>?_)
 ·refine kT<|seqE<|blockE<|sR<|pu2<|nT<|rE<|pu1 ?_
  obtain ⟨q0,r0⟩:=at_some hKi.1 (k:=i) om
  exact sIdxA (b:=a0) (off:=0) (i:Int) i runUnderlying172 sizeOf4<|sTel (enc:=encKB) (sz:=1) i0 fR 1 i 0 0 q0 true r0 (.bool true) [.bool true] sizeOf4 fun _ s0=>nB<|rE<|sAdd (i:Int) 1<|pu1<|nT<|⟨(i+1,(ks.set i true)),od,alA,s0,om,(hKi.inp om)⟩
 refine exitE<|xB<|tN<|sR<|pu2<|nilO ?_
 have hK0:KN p.inputs.n [] ks:=by rw [show p.inputs.n=i by omega];exact hKi
 refine tN<|sR<|pu1<|nT<|blockE ?_
 have t0:=Sat.nilc i0
 have u0:=OwnT.nil (enc:=Go.E.encI) (E:=3) (sz:=1) fR
 have v0:=(t0.picks [2,1])
 refine loopA (γ:=(List Int)×(Option Addr)×Nat×Nat×Chunk×(List Bool)) (fun ⟨zs,az,nz,kz,cz,kt⟩=>[(1,Pt b0 0),(3,Pt a0 0),(4,Pt c0 0),(6, .func (.func 176) #[] #[Pt a0 0,Pt c0 0,Pt b0 0]),(7, .slice az nz kz)]) (fun ⟨zs,az,nz,kz,cz,kt⟩ w=>Sat W w (cz::(Tri a0 172 [] (kt.flatMap encKB) [])::[(c0, .cells #[I (p.inputs.n:Int)] 3 (0,0))]::[(b0, .cells (encJob p).toArray 28 (0,0))]::H::F)/\OwnT Go.E.encI 3 1 az nz kz zs cz/\KN p.inputs.n zs kt/\OutG (p.inputs.n:Int) ((p.stages.l.map Stage.v).map srcs) zs/\listG (p.inputs.n:Int) ((p.stages.l.map Stage.v).map srcs) (p.stages.n+1) []=listG (p.inputs.n:Int) ((p.stages.l.map Stage.v).map srcs) (p.stages.n+1-zs.length) zs) (fun ⟨zs,az,nz,kz,cz,kt⟩=>(p.stages.n-zs.length)) ([],none,0,0,[],ks) ⟨v0,u0,hK0,OutG.nil,rfl⟩ ?_
 rintro ⟨zs,az,nz,kz,cz,kt⟩ ρ _ ⟨j0,hOz,hKt,hOut,hLi⟩
 have hnz:=hOz.len;have hlz:=hOz.le;have hol:=hOut.len;rw [List.length_map] at hol;have hk16:=hKt.1
 refine blockE<|sR<|pu1<|zQ<|pu1<|sL j0 3 1 (.slice p.stages.a p.stages.n p.stages.k) (isAgg26 _)<|pu2<|nT<|blockE ?_
 refine loopA (γ:=Nat) (fun j=>[(1,Pt b0 0),(3,Pt a0 0),(4,Pt c0 0),(6, .func (.func 176) #[] #[Pt a0 0,Pt c0 0,Pt b0 0]),(7, .slice az nz kz),(23,I (p.stages.n:Int)),(24,I (j:Int)),(8,I (-1))]) (fun j w=>Sat W w (cz::(Tri a0 172 [] (kt.flatMap encKB) [])::[(c0, .cells #[I (p.inputs.n:Int)] 3 (0,0))]::[(b0, .cells (encJob p).toArray 28 (0,0))]::H::F)/\j<=p.stages.n/\(ordPick (p.inputs.n:Int) zs ((p.stages.l.map Stage.v).drop 0) ((0:Nat):Int)=ordPick (p.inputs.n:Int) zs ((p.stages.l.map Stage.v).drop j) (j:Int))) (fun j=>p.stages.n-j) 0 ⟨j0,om,by rfl⟩ ?_
 rintro j ρ _ ⟨k0,hj,hP⟩
 refine sR<|pu1<|nT<|seqE<|cD ((j:Int)<(p.stages.n:Int)) (fun w0=>?_) (fun w0=>?_)
 rotate_left
 ·refine exitE<|xB<|tN<|seqE<|sR<|pu2<|zC<|pu2<|zE<|tR<|tR<|retT [.slice az nz kz] ?_
  have hpk:pickG (p.inputs.n:Int) zs ((p.stages.l.map Stage.v).map srcs) 0=-1:=by rw [<-pick_ord,<-List.drop_zero (l:=(p.stages.l.map Stage.v))];exact (show ordPick _ _ _ ((0:Nat):Int)=_ from hP.trans (by rw [List.drop_of_length_le om];rfl))
  have hfin:listV p.v=zs:=by
   unfold listV
   show listG ((p.inputs.l.map Plane.v).length:Nat) ((p.stages.l.map Stage.v).map srcs) ((p.stages.l.map Stage.v).length+1) []=_
   rw [hmi,hms,hLi,show p.stages.n+1-zs.length=(p.stages.n-zs.length)+1 by omega,listG,if_pos (by rw [hpk];omega)]
  have x0:=(k0.drops [1,1,1])
  have hl:zs=listV p.v:=(by rw [hfin])
  have hrd:=hOz
  rw [hl] at hrd
  exact ⟨_,_,_,_,rfl,hrd,x0⟩
 refine kT<|seqE<|blockE<|sR<|pu2<|zS<|pu2 ?_
 have y0:=(k0.picks [3,3,3])
 obtain ⟨l0,d0⟩:∃z,p.stages.l[j]?=some z:=⟨_,List.getElem?_eq_getElem (show j<p.stages.l.length by omega)⟩
 refine cXc #[Pt a0 0,Pt c0 0,Pt b0 0] call176 (p17_possible (hp.of_mem (mem_flat1 1 (by rfl))) hKt d0 om (hsrc l0 (List.mem_of_getElem? d0)) (Sat.flat3 y0)) ?_
 rintro _ _ ⟨rfl,z0⟩
 have e0:=Sat.unflatc z0
 refine nT<|cB (possB p.inputs.n zs l0.v j) (fun f0=>?_) (fun f0=>?_)
 rotate_left
 ·exact skipE<|bN<|tN<|rE<|sAdd (j:Int) 1<|pu1<|nT<|⟨j+1,od,alA,(e0.pick 3 rfl),om,(hP.trans (pick_no (map_at (f:=Stage.v) d0) f0))⟩
 refine sR<|sL e0 1 0 (I (p.inputs.n:Int)) (isAgg3 _)<|pu1<|sAdd (p.inputs.n:Int) (j:Int)<|pu1<|nT<|exitE<|blockK_y rfl<|xB<|tN<|seqE<|sR<|pu2<|nT<|cD (((p.inputs.n:Int)+(j:Int))<0) (fun b1=>?_) (fun b1=>?_)
 ·refine sR<|pu2<|zE<|tR<|tR<|retT [.slice az nz kz] ?_
  have hpk:pickG (p.inputs.n:Int) zs ((p.stages.l.map Stage.v).map srcs) 0=-1:=by rw [<-pick_ord,<-List.drop_zero (l:=(p.stages.l.map Stage.v))];exact (show ordPick _ _ _ ((0:Nat):Int)=_ from hP.trans (by rw [List.drop_of_length_le om];rfl))
  have hfin:listV p.v=zs:=by
   unfold listV
   show listG ((p.inputs.l.map Plane.v).length:Nat) ((p.stages.l.map Stage.v).map srcs) ((p.stages.l.map Stage.v).length+1) []=_
   rw [hmi,hms,hLi,show p.stages.n+1-zs.length=(p.stages.n-zs.length)+1 by omega,listG,if_pos (by rw [hpk];omega)]
  have c1:=(e0.drops [0,0,0])
  have hl:zs=listV p.v:=(by rw [hfin])
  have hrd:=hOz
  rw [hl] at hrd
  exact ⟨_,_,_,_,rfl,hrd,c1⟩
 refine kS<|pu1 ?_
 obtain ⟨d1,e1⟩:=at_some hKt.1 (k:=(((p.inputs.n:Int)+(j:Int)).toNat)) om
 refine sIdxA (b:=a0) (off:=0) ((p.inputs.n:Int)+(j:Int)) (((p.inputs.n:Int)+(j:Int)).toNat) runUnderlying172 sizeOf4<|sTel (enc:=encKB) (sz:=1) e0 fR 0 (((p.inputs.n:Int)+(j:Int)).toNat) 0 0 d1 true e1 (.bool true) [.bool true] sizeOf4 fun _ f1=>nT<|rE<|pu2<|sBS f1 #[I ((p.inputs.n:Int)+(j:Int))] runUnderlying22 sizeOf3 zeroValue3 fun _ _ g1=>sApp (nb:=8) g1 hOz 4 (RdT.blk (enc:=Go.E.encI) (sz:=1) (xs:=[((p.inputs.n:Int)+(j:Int))]) fR 1 0 rfl rfl rfl om) underlying22 (i:=Tryz.t3) kr fR fun h1 i1 j1 _ k1 l1=>pu1<|nB ?_
 have m1:=((l1.pick 4 rfl).dropAt 1 rfl)
 have hpk:pickG (p.inputs.n:Int) zs ((p.stages.l.map Stage.v).map srcs) 0=((p.inputs.n:Int)+(j:Int)):=by rw [<-pick_ord,<-List.drop_zero (l:=(p.stages.l.map Stage.v))];exact (show ordPick _ _ _ ((0:Nat):Int)=_ from hP.trans (pick_yes (map_at (f:=Stage.v) d0) f0))
 have hsn:=OutG.snoc om hOut (by rw [hpk];omega);rw [hpk] at hsn;have hsl:=hsn.len;rw [List.length_map,List.length_append,List.length_singleton] at hsl
 exact ⟨((zs++[((p.inputs.n:Int)+(j:Int))]),h1,(nz+1),i1,j1,(kt.set (((p.inputs.n:Int)+(j:Int)).toNat) true)),(by dsimp only;rw [List.length_append,List.length_singleton];omega),alA,m1,k1,(hKt.add om),hsn,(by rw [hLi,show p.stages.n+1-zs.length=(p.stages.n+1-(zs.length+1))+1 by omega,listG,if_neg (by rw [hpk];omega),hpk,List.length_append,List.length_singleton])⟩
theorem chk_len {j:JobV} (h:chkCode j=0):1<=j.inputs.length/\1<=j.stages.length/\j.inputs.length+j.stages.length<=16:=by
  unfold chkCode at h
  split at h
  · rename_i hx;omega
  · cases h
theorem chk_srcs {j:JobV} (h:chkCode j=0) {s:StageV} (hs:s∈j.stages):∀x∈srcs s,0<=x/\x<(j.inputs.length:Int)+(j.stages.length:Int):=by
  have h1:=chk_src h hs
  intro x hx
  unfold srcs at hx
  split at hx
  · rename_i ht
    have:=h1.2 ht
    simp only [List.mem_cons,List.not_mem_nil,or_false] at hx
    rcases hx with rfl|rfl<;>omega
  · simp only [List.mem_singleton] at hx;subst hx;omega
theorem p17_order (p:Job) (hp:Job.Ok [H] p) (hb:p.inputs.n<=1000000/\p.stages.n<=1000000/\p.outputs.n<=1000000) (hS:Sat W w (H::F)):
  Calls prog 84 #[.agg (encJob p).toArray] w fun e w'=>∃(az:Option Addr) (nz kz:Nat) (G:Chunk),e= .returned (.tuple #[.slice az nz kz,I ((ordV p.v).2)])/\OwnT Go.E.encI 3 1 az nz kz ((ordV p.v).1) G/\Sat W w' (G::H::F):=by
 have hl_p_inputs:=hp.inputs.le;have hn_p_inputs:=hp.inputs.len
 have hl_p_stages:=hp.stages.le;have hn_p_stages:=hp.stages.len
 have hl_p_outputs:=hp.outputs.le;have hn_p_outputs:=hp.outputs.len
 have hmi:(p.inputs.l.map Plane.v).length=p.inputs.n:=by simp [hn_p_inputs]
 have hms:(p.stages.l.map Stage.v).length=p.stages.n:=by simp [hn_p_stages]
 refine callsA 26 func84 rfl<|sR<|sBox hS (.agg (encJob p).toArray) (encJob p).toArray fun _ _ g0=>pu2<|zQ<|lA g0 0 0 4 (isAgg28 _) (sizeOf28 _)<|cR call136 (p17_limits p (hp.of_mem (mem_flat1 1 (by rfl))) (od) g0.flat) fun _ b0=>pu1<|zS<|pu2<|nT<|cN (limC p.v) 0 (fun a0=>?_) (fun a0=>?_)
 rotate_left
 ·refine sR<|pu3<|zR<|retT [nS,I (limC p.v)] ?_
  have hch:chkCode p.v=limC p.v:=by rw [chk_lim,if_neg a0]
  have hk:ordV p.v=([],limC p.v):=by unfold ordV;rw [if_neg (by rw [hch];exact a0),hch]
  have i0:=(b0.dropAt 0 rfl)
  have j0:Sat W _ ([]::H::F):=Sat.nilc i0
  have hl:([]:List Int)=(ordV p.v).1:=(by rw [hk])
  have hrd:=OwnT.nil (enc:=Go.E.encI) (E:=3) (sz:=1) fR
  rw [hl] at hrd
  exact ⟨_,_,_,_,(by rw [hk];rfl),hrd,j0⟩
 refine kT<|seqE<|sR<|lA b0 0 0 4 (isAgg28 _) (sizeOf28 _)<|cR call137 (p17_names p (hp.of_mem (mem_flat1 1 (by rfl))) (od) b0.flat) fun _ c0=>pu1<|zS<|pu2<|nT<|cN (namC p.v) 0 (fun d0=>?_) (fun d0=>?_)
 rotate_left
 ·refine sR<|pu3<|zR<|retT [nS,I (namC p.v)] ?_
  have hch:chkCode p.v=namC p.v:=by rw [chk_lim,if_pos a0]
  have hk:ordV p.v=([],namC p.v):=by unfold ordV;rw [if_neg (by rw [hch];exact d0),hch]
  have k0:=(c0.dropAt 0 rfl)
  have l0:Sat W _ ([]::H::F):=Sat.nilc k0
  have hl:([]:List Int)=(ordV p.v).1:=(by rw [hk])
  have hrd:=OwnT.nil (enc:=Go.E.encI) (E:=3) (sz:=1) fR
  rw [hl] at hrd
  exact ⟨_,_,_,_,(by rw [hk];rfl),hrd,l0⟩
 refine kT<|seqE ?_
 have hch:chkCode p.v=0:=by rw [chk_lim,if_pos a0];exact d0
 have hol:=ord_list hch;have hlb:=chk_len hch;have hlb2:p.inputs.n+p.stages.n<=16:=(by have h:=hlb;simp only [Job.v] at h;omega)
 have hsr:∀z∈p.stages.l,∀x∈srcs z.v,0<=x/\x<((p.inputs.n+p.stages.n:Nat):Int):=fun z hz x hx=>by have h:=chk_srcs hch (s:=z.v) (List.mem_map_of_mem hz) x hx;simp only [Job.v] at h;omega
 refine rE<|lA c0 0 0 4 (isAgg28 _) (sizeOf28 _)<|cX call138 (p17_list p (hp.of_mem (mem_flat1 1 (by rfl))) hlb2 hsr c0.flat) ?_
 rintro _ _ ⟨m0,h0,n0,_,rfl,e0,o0⟩
 have f0:=o0.unflat1
 have hn_az_15:=e0.len;have hl_az_15:=e0.le
 refine pu1<|zQ<|pu3<|sL f0 1 1 (.slice p.stages.a p.stages.n p.stages.k) (isAgg26 _)<|pu2<|nT<|cD ((h0:Int)<(p.stages.n:Int)) (fun p0=>?_) (fun p0=>?_)
 rotate_left
 ·refine kS<|pu3<|zE<|retT [.slice m0 h0 n0,I 0] ?_
  have hk:ordV p.v=(listV p.v,0):=by rw [hol.1,if_neg (by rw [show p.v.stages.length=p.stages.n from hms];omega)]
  have q0:=(f0.dropAt 1 rfl)
  have hl:(listV p.v)=(ordV p.v).1:=(by rw [hk])
  have hrd:=e0
  rw [hl] at hrd
  exact ⟨_,_,_,_,(by rw [hk];rfl),hrd,q0⟩
 refine sR<|pu2<|zR<|retT [nS,I 7] ?_
 have hk:ordV p.v=([],7):=by rw [hol.1,if_pos (by rw [show p.v.stages.length=p.stages.n from hms];omega)]
 have r0:=(f0.drops [0,0])
 have s0:Sat W _ ([]::H::F):=Sat.nilc r0
 have hl:([]:List Int)=(ordV p.v).1:=(by rw [hk])
 have hrd:=OwnT.nil (enc:=Go.E.encI) (E:=3) (sz:=1) fR
 rw [hl] at hrd
 exact ⟨_,_,_,_,(by rw [hk];rfl),hrd,s0⟩
end Go.Proofs.YtmlhcafjelkjfaaGreat
