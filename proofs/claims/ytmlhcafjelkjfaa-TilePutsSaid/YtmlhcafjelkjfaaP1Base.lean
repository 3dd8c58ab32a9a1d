import Derived.WalkKit
import Derived.Deep.Quiet
import Derived.KernelRfl
namespace Go.E
abbrev Env:=Nat->Value
def upd (ρ:Env) (d:Nat) (v:Value):Env:=fun t=>bif Nat.beq t d then v else ρ t
def put (ρ:Env):Option Tmp->Value->Env
  |some d,v=>upd ρ d v
  |none,_=>ρ
def upds (ρ:Env):List (Nat×Value)->Env
  |[]=>ρ
  |(d,v)::us=>upds (upd ρ d v) us
def ev (ρ:Env):Operand->Value
  | .tmp t=>ρ t
  | .const v=>v
  | .global g=> .pointer (some ⟨g,0,none⟩)
  | .func f=> .func (.func f) #[] #[]
def rho0 (args:Array Value):Env:=fun t=>args.getD t undef
structure Rep (n:Nat) (ρ:Env) (a:Act):Prop where
  size:a.tmps.size=n
  dfr:a.defers=[]
  val:∀t,a.tmps.getD t undef=ρ t
theorem Rep.eval {n:Nat} {ρ:Env} {a:Act} (h:Rep n ρ a):a.eval=ev ρ:=funext fun x=>by cases x<;>simp [Act.eval,ev,h.val]
def dstOK (n:Nat):Option Tmp->Bool
  |none=>true
  |some d=>Nat.blt d n
theorem Rep.put {n:Nat} {ρ:Env} {a:Act} (h:Rep n ρ a) {d:Option Tmp} (hd:dstOK n d=true) (v:Value):Rep n (put ρ d v) (a.put d v):=by
  cases d with
  |none=>exact h
  |some d=>
    have hd':d<n:=by simpa [dstOK] using hd
    refine ⟨by simp [Act.put,h.size],by simp [Act.put,h.dfr],fun t=>?_⟩
    have hv:=h.val t
    have hs:=h.size
    simp only [Act.put,E.put,upd,Bool.cond_eq_ite]
    by_cases htd:t=d
    · subst htd
      simp [hs,hd']
    · have:Nat.beq t d=false:=by cases hb:Nat.beq t d with|false=>rfl|true=>exact absurd (Nat.eq_of_beq_eq_true hb) htd
      rw [if_neg (by simp [this]),<-hv]
      simp only [Array.getD_eq_getD_getElem?,Array.getElem?_setIfInBounds]
      rw [if_neg (fun e=>htd e.symm)]
def lift (n:Nat) (K:Exit->Env->World->Prop):Exit->Act->World->Prop:=fun e a w=>∃ρ,Rep n ρ a/\K e ρ w
def CodeE (P:Program) (n:Nat) (c:Code) (K:Exit->Env->World->Prop) (ρ:Env) (w:World):Prop:=∀a,Rep n ρ a->c.wp P (lift n K) a w
def OpsE (P:Program) (n:Nat) (ops:Array Oper) (l:List Oper) (K:Env->World->Prop) (ρ:Env) (w:World):Prop:=
  ∀a,Rep n ρ a->∀Q:Exit->Act->World->Prop,(∀ρ a w,Rep n ρ a->K ρ w->Q .normal a w)->wpList P ops Q l a w
def thenK (N:Env->World->Prop) (K:Exit->Env->World->Prop):Exit->Env->World->Prop
  | .normal,ρ,w=>N ρ w
  |e,ρ,w=>K e ρ w
def blockK (id:Nat) (K:Exit->Env->World->Prop):Exit->Env->World->Prop
  | .exit id',ρ,w=>if id'=id then K .normal ρ w else K (.exit id') ρ w
  |e,ρ,w=>K e ρ w
section
variable {P:Program} {n:Nat} {K:Exit->Env->World->Prop} {ρ:Env} {w:World}
theorem CodeE.mono {c:Code} {K':Exit->Env->World->Prop} (h:CodeE P n c K ρ w) (hk:∀e ρ w,K e ρ w->K' e ρ w):CodeE P n c K' ρ w:=
  fun a ha=>wp_mono (h a ha) fun _ _ _ ⟨ρ',hr,hK⟩=>⟨ρ',hr,hk _ _ _ hK⟩
theorem seqE {x y:Code} (h:CodeE P n x (thenK (CodeE P n y K) K) ρ w):CodeE P n (.seq x y) K ρ w:=by
  intro a ha
  refine wp_seq (wp_mono (h a ha) fun e a' w' hq=>?_)
  obtain ⟨ρ',hr,hK⟩:=hq
  cases e with
  |normal=>exact hK a' hr
  |exit id=>exact ⟨ρ',hr,hK⟩
  |goto l=>exact ⟨ρ',hr,hK⟩
  |ret=>exact ⟨ρ',hr,hK⟩
  |panic c=>exact ⟨ρ',hr,hK⟩
  |outgrown=>exact ⟨ρ',hr,hK⟩
theorem cutE {x y:Code} (I:Env->World->Prop) (h:CodeE P n x (thenK I K) ρ w) (h2:∀ρ w,I ρ w->CodeE P n y K ρ w):CodeE P n (.seq x y) K ρ w:=
  seqE (h.mono fun e ρ w hk=>by
    cases e with
    |normal=>exact h2 _ _ hk
    |exit id=>exact hk
    |goto l=>exact hk
    |ret=>exact hk
    |panic c=>exact hk
    |outgrown=>exact hk)
theorem skipE (h:K .normal ρ w):CodeE P n .skip K ρ w:=fun _ ha=>wp_skip ⟨ρ,ha,h⟩
theorem exitE {id:Nat} (h:K (.exit id) ρ w):CodeE P n (.exit id) K ρ w:=fun _ ha=>wp_exit ⟨ρ,ha,h⟩
theorem retE (h:K .ret ρ w):CodeE P n .ret K ρ w:=fun _ ha=>wp_ret ⟨ρ,ha,h⟩
theorem condE {c:Operand} {x y:Code} {b:Bool} (hc:ev ρ c= .bool b) (ht:b=true->CodeE P n x K ρ w) (hf:b=false->CodeE P n y K ρ w):
    CodeE P n (.cond c x y) K ρ w:=fun a ha=>wp_cond_split (by rw [ha.eval];exact hc) (fun h=>ht h a ha) (fun h=>hf h a ha)
theorem condE_true {c:Operand} {x y:Code} (hc:ev ρ c= .bool true) (h:CodeE P n x K ρ w):CodeE P n (.cond c x y) K ρ w:=
  fun a ha=>wp_cond_true (by rw [ha.eval];exact hc) (h a ha)
theorem condE_false {c:Operand} {x y:Code} (hc:ev ρ c= .bool false) (h:CodeE P n y K ρ w):CodeE P n (.cond c x y) K ρ w:=
  fun a ha=>wp_cond_false (by rw [ha.eval];exact hc) (h a ha)
theorem blockE {id:Nat} {c:Code} (h:CodeE P n c (blockK id K) ρ w):CodeE P n (.block id c) K ρ w:=by
  intro a ha
  refine wp_block (wp_mono (h a ha) fun e a' w' hq=>?_)
  obtain ⟨ρ',hr,hK⟩:=hq
  cases e with
  |normal=>exact ⟨ρ',hr,hK⟩
  |exit id'=>
    simp only [blockK] at hK
    simp only [Exit.inBlock]
    split
    · rename_i h;rw [if_pos h] at hK;exact ⟨ρ',hr,hK⟩
    · rename_i h;rw [if_neg h] at hK;exact ⟨ρ',hr,hK⟩
  |goto l=>exact ⟨ρ',hr,hK⟩
  |ret=>exact ⟨ρ',hr,hK⟩
  |panic c=>exact ⟨ρ',hr,hK⟩
  |outgrown=>exact ⟨ρ',hr,hK⟩
theorem loopE {c:Code} {γ:Type} (I:γ->Env->World->Prop) (μ:γ->Nat) (g0:γ) (h0:I g0 ρ w)
    (h:∀g ρ w,I g ρ w->CodeE P n c (thenK (fun ρ' w'=>∃g',μ g'<μ g/\I g' ρ' w') K) ρ w):CodeE P n (.loop c) K ρ w:=by
  classical
  intro a ha
  let J:Nat->Act->World->Prop:=fun m a w=>∃g ρ,μ g=m/\Rep n ρ a/\I g ρ w
  let least:Act->World->Nat:=fun a w=>if hx:∃m,J m a w then Classical.choose (show ∃m,J m a w/\∀k,J k a w->m<=k from by
    obtain ⟨m,hm⟩:=hx
    induction m using Nat.strongRecOn with
    |_ m ih=>
      by_cases hy:∃k,k<m/\J k a w
      · obtain ⟨k,hk,hj⟩:=hy;exact ih k hk hj
      · exact ⟨m,hm,fun k hk=>Nat.le_of_not_lt fun hlt=>hy ⟨k,hlt,hk⟩⟩) else 0
  have hleast:∀a w,(∃m,J m a w)->J (least a w) a w/\∀k,J k a w->least a w<=k:=by
    intro a w hx
    simp only [least,dif_pos hx]
    exact Classical.choose_spec (p:=fun m=>J m a w/\∀k,J k a w->m<=k) _
  refine wp_loop (fun a w=>∃m,J m a w) least ⟨_,g0,ρ,rfl,ha,h0⟩ fun a w hx=>?_
  obtain ⟨⟨g,ρ',hm,hr,hI⟩,_⟩:=hleast a w hx
  refine wp_mono (h g ρ' w hI a hr) fun e a' w' hq=>?_
  obtain ⟨ρ'',hr',hK⟩:=hq
  cases e with
  |normal=>
    obtain ⟨g',hlt,hI'⟩:=hK
    have hj:J (μ g') a' w':=⟨g',ρ'',rfl,hr',hI'⟩
    exact ⟨⟨_,hj⟩,Nat.lt_of_le_of_lt ((hleast a' w' ⟨_,hj⟩).2 _ hj) (hm▸hlt)⟩
  |exit id=>exact ⟨ρ'',hr',hK⟩
  |goto l=>exact ⟨ρ'',hr',hK⟩
  |ret=>exact ⟨ρ'',hr',hK⟩
  |panic c=>exact ⟨ρ'',hr',hK⟩
  |outgrown=>exact ⟨ρ'',hr',hK⟩
def roundsE (P:Program) (n:Nat) (c:Code) (K:Exit->Env->World->Prop):Nat->Env->World->Prop
  |0,_,_=>False
  |m+1,ρ,w=>CodeE P n c (thenK (roundsE P n c K m) K) ρ w
theorem roundS {c:Code} {m:Nat} (h:CodeE P n c (thenK (roundsE P n c K m) K) ρ w):roundsE P n c K (m+1) ρ w:=h
theorem loopN {c:Code} (m:Nat) (h:roundsE P n c K m ρ w):CodeE P n (.loop c) K ρ w:=by
  have key:∀m ρ w,roundsE P n c K m ρ w->∀a,Rep n ρ a->Code.rounds P c (lift n K) m a w:=by
    intro m
    induction m with
    |zero=>intro ρ w h a _;exact h.elim
    |succ m ih=>
      intro ρ w h a ha
      refine wp_mono (h a ha) fun e a' w' hq=>?_
      obtain ⟨ρ',hr,hK⟩:=hq
      cases e with
      |normal=>exact ih _ _ hK a' hr
      |exit id=>exact ⟨ρ',hr,hK⟩
      |goto l=>exact ⟨ρ',hr,hK⟩
      |ret=>exact ⟨ρ',hr,hK⟩
      |panic c=>exact ⟨ρ',hr,hK⟩
      |outgrown=>exact ⟨ρ',hr,hK⟩
  exact fun a ha=>wp_loop_rounds m (key m ρ w h a ha)
theorem regionE {id:Nat} {l:List Oper} (h:OpsE P n l.toArray l (K .normal) ρ w):CodeE P n (.region id l.toArray false) K ρ w:=
  fun a ha=>wp_region_lit (h a ha _ fun ρ _ _ hr hk=>⟨ρ,hr,hk⟩)
theorem thenK_n {N:Env->World->Prop} (h:N ρ w):thenK N K .normal ρ w:=h
theorem thenK_r {N:Env->World->Prop} (h:K .ret ρ w):thenK N K .ret ρ w:=h
theorem thenK_x {N:Env->World->Prop} {id:Nat} (h:K (.exit id) ρ w):thenK N K (.exit id) ρ w:=h
theorem blockK_n {id:Nat} (h:K .normal ρ w):blockK id K .normal ρ w:=h
theorem blockK_r {id:Nat} (h:K .ret ρ w):blockK id K .ret ρ w:=h
theorem blockK_x {id:Nat} (h:K .normal ρ w):blockK id K (.exit id) ρ w:=by simp only [blockK,if_true];exact h
theorem blockK_y {id id':Nat} (hn:Nat.beq id' id=false) (h:K (.exit id') ρ w):blockK id K (.exit id') ρ w:=by
  have:¬id'=id:=fun e=>by simp [e] at hn
  simp only [blockK,if_neg this];exact h
inductive Res1 (P:Program) (ρ:Env) (w:World):ResultVar->Value->Prop
  |tmp (t:Tmp) (v:Value) (h:ρ t=v):Res1 P ρ w (.tmp t) v
  |cell (t:Tmp) (ty:TypeId) (a:Addr) (v:Value) (h:ρ t= .pointer (some a)) (hv:(loadVar ty a).run P w= .ok v w):Res1 P ρ w (.cell t ty) v
inductive ResN (P:Program) (ρ:Env) (w:World):List ResultVar->List Value->Prop
  |nil:ResN P ρ w [] []
  |cons {r:ResultVar} {v:Value} {rs:List ResultVar} {vs:List Value} (h:Res1 P ρ w r v) (t:ResN P ρ w rs vs):ResN P ρ w (r::rs) (v::vs)
def packed:List Value->Value
  |[v]=>v
  |vs=> .tuple vs.toArray
theorem packed_eq (vs:List Value):(if h:vs.toArray.size=1 then vs.toArray[0] else .tuple vs.toArray)=packed vs:=by
  match vs with
  |[]=>rfl
  |[v]=>rfl
  |a::b::t=>simp [packed]
def retK (P:Program) (fn:Func) (R:Ending->World->Prop):Exit->Env->World->Prop
  | .ret,ρ,w| .normal,ρ,w=>∃vs,ResN P ρ w fn.results.toList vs/\R (.returned (packed vs)) w
  |_,_,_=>False
def resG (ρ:Env):ResultVar->Sem Value
  | .tmp t=>pure (ρ t)
  | .cell a t=>do loadVar t (<-asAddr (ρ a))
theorem asAddr_ptr (a:Addr):asAddr (.pointer (some a))=pure a:=rfl
theorem results_run {fn:Func} {tmps:Array Value} {vs:List Value} (hv:∀t,tmps.getD t undef=ρ t) (h:ResN P ρ w fn.results.toList vs):
    (results fn tmps).run P w= .ok (packed vs) w:=by
  have key:∀(rs:List ResultVar) (vs:List Value),ResN P ρ w rs vs->(rs.mapM (resG ρ)).run P w= .ok vs w:=by
    intro rs vs h
    induction h with
    |nil=>simp
    |cons h1 _ ih=>
      cases h1 with
      |tmp t v h=>simp [List.mapM_cons,resG,h,ih]
      |cell t ty a v h hl=>simp [List.mapM_cons,resG,h,asAddr_ptr,hl,ih]
  have hk:=key _ _ h
  have e:fn.results=fn.results.toList.toArray:=by simp
  have e2:results fn tmps=(do let vs<-fn.results.mapM (resG ρ);pure (if h:vs.size=1 then vs[0] else .tuple vs)):=by
    unfold results
    congr 2
    funext r
    cases r with
    |tmp t=>simp [resG,hv]
    |cell t ty=>simp only [resG,hv]
  rw [e2,e,List.mapM_toArray]
  simp only [Sem.run_bind,Sem.run_map,hk]
  simpa using packed_eq vs
theorem callsE {f:FuncId} {fn:Func} {c:Code} {args:Array Value} {R:Ending->World->Prop} (hf:P.funcs[f]?=some fn) (hb:fn.body=some c) (hn:fn.ntmps=n)
    (hs:args.size<=n) (h:CodeE P n c (retK P fn R) (rho0 args) w):Calls P f args w R:=by
  refine calls_of_wp hf hb ?_
  have hrep:Rep n (rho0 args) {tmps:=args++Array.replicate (fn.ntmps-args.size) undef,defers:=[]}:=by
    refine ⟨by simp [hn];omega,rfl,fun t=>?_⟩
    simp only [rho0,Array.getD_eq_getD_getElem?,Array.getElem?_append]
    by_cases ht:t<args.size
    · simp [ht]
    · simp only [ht,if_false,Array.getElem?_replicate]
      split<;>simp [ht]
  refine wp_mono (h _ hrep) fun e a' w' hq=>?_
  obtain ⟨ρ',hr,hK⟩:=hq
  cases e with
  |normal=>obtain ⟨vs,h1,h2⟩:=hK;exact ⟨hr.dfr,_,results_run hr.val h1,h2⟩
  |ret=>obtain ⟨vs,h1,h2⟩:=hK;exact ⟨hr.dfr,_,results_run hr.val h1,h2⟩
  |exit id=>exact hK.elim
  |goto l=>exact hK.elim
  |panic c=>exact hK.elim
  |outgrown=>exact hK.elim
theorem retN {fn:Func} {R:Ending->World->Prop} {rs:List ResultVar} {vs:List Value} (hr:fn.results=rs.toArray) (hv:ResN P ρ w rs vs) (h:R (.returned (packed vs)) w):
    retK P fn R .ret ρ w:=⟨vs,by rw [hr];exact hv,h⟩
variable {ops:Array Oper} {rest:List Oper} {N:Env->World->Prop}
def Yields (P:Program) (ρ:Env) (o:Oper) (v:Value) (w:World):Prop:=(execOp (ev ρ) o).run P w= .ok (.value v) w
theorem nilO (h:N ρ w):OpsE P n ops [] N ρ w:=fun _ ha _ hq=>hq _ _ _ ha h
theorem stepRun {o:Oper} {v:Value} {w':World} (hg:o.guard=none) (hd:dstOK n o.dst=true) (hy:(execOp (ev ρ) o).run P w= .ok (.value v) w')
    (h:OpsE P n ops rest N (put ρ o.dst v) w'):OpsE P n ops (o::rest) N ρ w:=by
  intro a ha Q hq
  unfold wpList
  rw [if_pos (by simp [Region.wanted,hg])]
  refine .inl ?_
  unfold Oper.wp
  rw [ha.eval,hy]
  exact h _ (ha.put hd v) Q hq
theorem stepY {o:Oper} (v:Value) (hg:o.guard=none) (hd:dstOK n o.dst=true) (hy:Yields P ρ o v w)
    (h:OpsE P n ops rest N (put ρ o.dst v) w):OpsE P n ops (o::rest) N ρ w:=stepRun hg hd hy h
theorem stepSkip {o:Oper} {w':World} (hg:o.guard=none) (hd:dstOK n o.dst=true) (hy:(execOp (ev ρ) o).run P w= .ok .skip w')
    (h:OpsE P n ops rest N (put ρ o.dst undef) w'):OpsE P n ops (o::rest) N ρ w:=by
  intro a ha Q hq
  unfold wpList
  rw [if_pos (by simp [Region.wanted,hg])]
  refine .inl ?_
  unfold Oper.wp
  rw [ha.eval,hy]
  exact h _ (ha.put hd _) Q hq
theorem stepCall {o:Oper} {f:FuncId} {args:Array Value} (hg:o.guard=none) (hd:dstOK n o.dst=true) (hy:(execOp (ev ρ) o).run P w= .ok (.enter f args) w)
    (h:Calls P f args w fun e w'=>∃v,e= .returned v/\OpsE P n ops rest N (put ρ o.dst v) w'):OpsE P n ops (o::rest) N ρ w:=by
  intro a ha Q hq
  unfold wpList
  rw [if_pos (by simp [Region.wanted,hg])]
  refine .inl ?_
  unfold Oper.wp
  rw [ha.eval,hy]
  refine h.mono fun e w' ⟨v,he,hv⟩=>?_
  subst he
  exact hv _ (ha.put hd v) Q hq
def yieldsAs (ops:Array Oper) (ρ:Env) (j:Nat) (n:Nat) (b:Bool):Prop:=∃d,(ops[j]?).bind (·.dst)=some d/\Nat.blt d n=true/\ρ d= .bool b
theorem yielded_of {a:Act} (ha:Rep n ρ a) {j:Nat} {b:Bool} (h:yieldsAs ops ρ j n b):yielded ops a.tmps j=some b:=by
  obtain ⟨d,h1,h2,h3⟩:=h
  have hd:d<a.tmps.size:=by rw [ha.size];simpa using h2
  have hv:=ha.val d
  rw [h3] at hv
  have:a.tmps[d]?=some (.bool b):=by
    rw [Array.getD_eq_getD_getElem?] at hv
    rw [Array.getElem?_eq_getElem hd] at hv⊢
    simpa using hv
  simp [yielded,h1,this]
theorem guardYes {o:Oper} {j:Nat} {b:Bool} (hg:o.guard=some (j,b)) (hy:yieldsAs ops ρ j n b) (h:OpsE P n ops ({o with guard:=none}::rest) N ρ w):OpsE P n ops (o::rest) N ρ w:=by
  intro a ha Q hq
  have h1:=h a ha Q hq
  have hyd:=yielded_of ha hy
  unfold wpList at h1⊢
  rw [if_pos (by simp [Region.wanted])] at h1
  rw [if_pos (by simp [Region.wanted,hg,hyd])]
  rcases h1 with h1|h1
  · exact .inl h1
  · exact .inr h1
def noY (ops:Array Oper) (ρ:Env) (j:Nat) (n:Nat) (b:Bool):Prop:=∃d,(ops[j]?).bind (·.dst)=some d/\Nat.blt d n=true/\((∃c,ρ d= .bool c/\(c==b)=false)\/∃l,ρ d= .tuple l)
theorem not_yielded {a:Act} (ha:Rep n ρ a) {j:Nat} {b:Bool} (h:noY ops ρ j n b):yielded ops a.tmps j≠some b:=by
  obtain ⟨d,h1,h2,h3⟩:=h
  have hd:d<a.tmps.size:=by rw [ha.size];simpa using h2
  have hv:=ha.val d
  have hq:a.tmps[d]?=some (ρ d):=by
    rw [Array.getD_eq_getD_getElem?] at hv
    rw [Array.getElem?_eq_getElem hd] at hv⊢
    simpa using hv
  rcases h3 with ⟨c,h3,hc⟩|⟨l,h3⟩
  · rw [h3] at hq
    intro e
    simp [yielded,h1,hq] at e
    simp [e] at hc
  · rw [h3] at hq
    simp [yielded,h1,hq]
theorem guardNo {o:Oper} {j:Nat} {b:Bool} (hg:o.guard=some (j,b)) (hd:dstOK n o.dst=true) (hy:noY ops ρ j n b) (h:OpsE P n ops rest N (put ρ o.dst undef) w):
    OpsE P n ops (o::rest) N ρ w:=by
  intro a ha Q hq
  have hyd:=not_yielded ha hy
  unfold wpList
  rw [if_neg (by simp [Region.wanted,hg,hyd])]
  exact h _ (ha.put hd _) Q hq
end
end Go.E
namespace Go.E
abbrev Chunk:=List (Nat×Obj)
structure Sat (W w:World) (cs:List Chunk):Prop where
  os:w.os=W.os
  tape:w.tape=W.tape
  output:w.output=W.output
  nd:(cs.flatten.map (·.1)).Nodup
  all:∀p∈cs.flatten,w.heap[p.1]?=some p.2
section
variable {W w:World} {cs:List Chunk}
theorem Sat.perm {cs':List Chunk} (h:Sat W w cs) (hp:cs.flatten.Perm cs'.flatten):Sat W w cs':=
  ⟨h.os,h.tape,h.output,(hp.map _).nodup_iff.1 h.nd,fun p hm=>h.all p (hp.mem_iff.2 hm)⟩
theorem flatten_pick:∀(cs:List Chunk) (i:Nat) (c:Chunk),cs[i]?=some c->cs.flatten.Perm (c++(cs.eraseIdx i).flatten)
  |[],i,c,h=>by simp at h
  |d::ds,0,c,h=>by simp at h;subst h;simp
  |d::ds,i+1,c,h=>by
    have ih:=flatten_pick ds i c (by simpa using h)
    simp only [List.flatten_cons,List.eraseIdx_cons_succ]
    refine (List.Perm.append_left d ih).trans ?_
    rw [<-List.append_assoc,<-List.append_assoc]
    exact List.Perm.append_right _ List.perm_append_comm
theorem Sat.pick0 {c:Chunk} (h:Sat W w cs) (i:Nat) (hi:cs[i]?=some c):Sat W w (c::cs.eraseIdx i):=h.perm (by simpa using flatten_pick cs i c hi)
theorem Sat.tail {c:Chunk} {F:List Chunk} (h:Sat W w (c::F)):Sat W w F:=by
  refine ⟨h.os,h.tape,h.output,?_,fun p hm=>h.all p (by simp only [List.flatten_cons,List.mem_append];exact .inr hm)⟩
  have:=h.nd
  simp only [List.flatten_cons,List.map_append] at this
  exact (List.nodup_append.1 this).2.1
theorem Sat.merge2 {c0 c1:Chunk} {F:List Chunk} (h:Sat W w (c0::c1::F)):Sat W w ((c0++c1)::F):=h.perm (by simp)
theorem Sat.pick {c:Chunk} {cs':List Chunk} (h:Sat W w cs) (i:Nat) (hi:cs[i]?=some c) (he:c::cs.eraseIdx i=cs':=by first|(dsimp only [List.eraseIdx_cons_succ,List.eraseIdx_cons_zero]<;>rfl)|rfl):Sat W w cs':=he▸h.pick0 i hi
theorem Sat.dropAt {c:Chunk} {cs':List Chunk} (h:Sat W w cs) (i:Nat) (hi:cs[i]?=some c) (he:cs.eraseIdx i=cs':=by first|(dsimp only [List.eraseIdx_cons_succ,List.eraseIdx_cons_zero]<;>rfl)|rfl):Sat W w cs':=he▸(h.pick0 i hi).tail
theorem Sat.nilc {F:List Chunk} (h:Sat W w F):Sat W w ([]::F):=h.perm (by simp)
@[simp] def pickL : List Nat -> List Chunk -> List Chunk
  |[],cs=>cs
  |i::is,cs=>pickL is (cs.getD i []::cs.eraseIdx i)
@[simp] def dropL : List Nat -> List Chunk -> List Chunk
  |[],cs=>cs
  |i::is,cs=>dropL is (cs.eraseIdx i)
theorem Sat.pickD (h:Sat W w cs) (i:Nat):Sat W w (cs.getD i []::cs.eraseIdx i):=by
  rw [List.getD_eq_getElem?_getD]
  cases hi:cs[i]? with
  |none=>rw [List.eraseIdx_of_length_le (List.getElem?_eq_none_iff.1 hi)];exact h.nilc
  |some c=>exact h.pick0 i hi
theorem Sat.picks0 (is:List Nat) {cs:List Chunk} (h:Sat W w cs):Sat W w (pickL is cs):=by
  induction is generalizing cs with
  |nil=>exact h
  |cons i is ih=>exact ih (h.pickD i)
theorem Sat.drops0 (is:List Nat) {cs:List Chunk} (h:Sat W w cs):Sat W w (dropL is cs):=by
  induction is generalizing cs with
  |nil=>exact h
  |cons i is ih=>exact ih (h.pickD i).tail
theorem Sat.picks (is:List Nat) {cs cs':List Chunk} (h:Sat W w cs) (he:pickL is cs=cs':=by first|(dsimp only [pickL,List.getD_cons_succ,List.getD_cons_zero,List.eraseIdx_cons_succ,List.eraseIdx_cons_zero]<;>rfl)|rfl):Sat W w cs':=he▸h.picks0 is
theorem Sat.drops (is:List Nat) {cs cs':List Chunk} (h:Sat W w cs) (he:dropL is cs=cs':=by first|(dsimp only [dropL,List.eraseIdx_cons_succ,List.eraseIdx_cons_zero]<;>rfl)|rfl):Sat W w cs':=he▸h.drops0 is
theorem Sat.drew (h:Sat W w cs):Sat W {w with drawn:=w.drawn+1} cs:=⟨h.os,h.tape,h.output,h.nd,h.all⟩
theorem Sat.heap {b:Nat} {o:Obj} (h:Sat W w cs) (hm:(b,o)∈cs.flatten):w.heap[b]?=some o:=h.all _ hm
theorem mem_at {cs:List Chunk} {p:Nat×Obj} (i:Nat) (h:cs[i]?=some [p]):p∈cs.flatten:=by
  have:=List.mem_of_getElem? h
  exact List.mem_flatten.2 ⟨_,this,by simp⟩
theorem mem_in {cs:List Chunk} {c:Chunk} {p:Nat×Obj} (i:Nat) (h:cs[i]?=some c) (hp:p∈c):p∈cs.flatten:=
  List.mem_flatten.2 ⟨_,List.mem_of_getElem? h,hp⟩
theorem Sat.at {b:Nat} {o:Obj} (h:Sat W w cs) (i:Nat) (hi:cs[i]?=some [(b,o)]):w.heap[b]?=some o:=h.heap (mem_at i hi)
theorem Sat.lt {b:Nat} {o:Obj} (h:Sat W w cs) (hm:(b,o)∈cs.flatten):b<w.heap.size:=(Array.getElem?_eq_some_iff.1 (h.heap hm)).1
theorem Sat.alloc (h:Sat W w cs) (o:Obj):Sat W (w.alloc o) ([(w.heap.size,o)]::cs):=by
  refine ⟨h.os,h.tape,h.output,?_,?_⟩
  · simp only [List.flatten_cons,List.singleton_append,List.map_cons,List.nodup_cons]
    refine ⟨fun hm=>?_,h.nd⟩
    obtain ⟨p,hp,he⟩:=List.mem_map.1 hm
    have:=h.lt (b:=p.1) (o:=p.2) hp
    omega
  · intro p hp
    simp only [List.flatten_cons,List.singleton_append,List.mem_cons] at hp
    rcases hp with rfl|hp
    · show (w.heap.push o)[w.heap.size]?=some o
      simp
    · have hl:=h.lt (b:=p.1) (o:=p.2) hp
      rw [Below.heap_alloc w o p.1 hl]
      exact h.all p hp
where
  Below.heap_alloc (w:World) (o:Obj) (k:Nat) (h:k<w.heap.size):(w.alloc o).heap[k]?=w.heap[k]?:=by
    show (w.heap.push o)[k]?=_
    rw [Array.getElem?_push,if_neg (by omega)]
theorem Sat.row {b:Nat} {c:Array Value} {E:TypeId} {f:Nat×Nat} {F:List Chunk} (h:Sat W w ([(b, .cells c E f)]::F)) (c':Array Value):Sat W (w.setRow b c') ([(b, .cells c' E f)]::F):=by
  refine ⟨h.os,h.tape,h.output,h.nd,?_⟩
  intro p hp
  simp only [List.flatten_cons,List.singleton_append,List.mem_cons] at hp
  rcases hp with rfl|hp
  · exact setRow_heap w b c c' E f (h.heap (by simp))
  · have hn:=h.nd
    simp only [List.flatten_cons,List.singleton_append,List.map_cons,List.nodup_cons] at hn
    have hne:p.1≠b:=fun e=>hn.1 (List.mem_map.2 ⟨p,hp,e⟩)
    rw [setRow_other w b p.1 c' hne]
    exact h.all p (by simp only [List.flatten_cons,List.singleton_append,List.mem_cons];exact .inr hp)
theorem flatten_set (cs:List Chunk) (i:Nat) (c d:Chunk) (h:cs[i]?=some c):(cs.set i d).flatten.Perm (d++(cs.eraseIdx i).flatten):=by
  have hl:i<cs.length:=(List.getElem?_eq_some_iff.1 h).1
  have:=flatten_pick (cs.set i d) i d (by simp [hl])
  rwa [List.eraseIdx_set_eq] at this
theorem Sat.set {c d:Chunk} {w':World} (h:Sat W w cs) (i:Nat) (hi:cs[i]?=some c) (hn:Sat W w (c::cs.eraseIdx i)->Sat W w' (d::cs.eraseIdx i)):Sat W w' (cs.set i d):=
  (hn (h.pick0 i hi)).perm (by simpa using (flatten_set cs i c d hi).symm)
theorem Sat.rowAt {b:Nat} {c:Array Value} {E:TypeId} {f:Nat×Nat} (h:Sat W w cs) (i:Nat) (hi:cs[i]?=some [(b, .cells c E f)]) (c':Array Value):
    Sat W (w.setRow b c') (cs.set i [(b, .cells c' E f)]):=h.set i hi fun h=>h.row c'
theorem cell_of {b off:Nat} {c:Array Value} {E:TypeId} {f:Nat×Nat} {v:Value} (h:w.heap[b]?=some (.cells c E f)) (hv:c[off]?=some v):w.cell? ⟨b,off,none⟩=some v:=by
  simp [World.cell?,h,hv]
theorem Sat.cell {b off:Nat} {c:Array Value} {E:TypeId} {f:Nat×Nat} {v:Value} (h:Sat W w cs) (i:Nat) (hi:cs[i]?=some [(b, .cells c E f)]) (hv:c[off]?=some v):
    w.cell? ⟨b,off,none⟩=some v:=cell_of (h.at i hi) hv
def PtR (cs:List Chunk) (b off:Nat) (l:List Value):Prop:=∃c E f,(b,Obj.cells c E f)∈cs.flatten/\(c.toList.drop off).take l.length=l
theorem PtR.cell {b off:Nat} {l:List Value} (hp:PtR cs b off l) (h:Sat W w cs) {k:Nat} {v:Value} (hk:l[k]?=some v):w.cell? ⟨b,off+k,none⟩=some v:=by
  obtain ⟨c,E,f,hm,ht⟩:=hp
  refine cell_of (h.heap hm) ?_
  have hkl:k<l.length:=(List.getElem?_eq_some_iff.1 hk).1
  rw [<-ht,List.getElem?_take,if_pos hkl,List.getElem?_drop] at hk
  simpa using hk
theorem PtR.sub {b off:Nat} {l:List Value} (hp:PtR cs b off l) (i k:Nat) (h:i+k<=l.length):PtR cs b (off+i) ((l.drop i).take k):=by
  obtain ⟨c,E,f,hm,ht⟩:=hp
  refine ⟨c,E,f,hm,?_⟩
  have e:((l.drop i).take k).length=k:=by simp;omega
  rw [e,<-ht]
  rw [List.drop_take,List.take_take,List.drop_drop]
  congr 1
  omega
theorem PtR.of_mem {cs':List Chunk} {b off:Nat} {l:List Value} (hp:PtR cs b off l) (h:∀p∈cs.flatten,p∈cs'.flatten):PtR cs' b off l:=by
  obtain ⟨c,E,f,hm,ht⟩:=hp
  exact ⟨c,E,f,h _ hm,ht⟩
def RdS (cs:List Chunk) (sz:Nat) (a:Option Addr) (n cap:Nat) (l:List Value):Prop:=
  l.length=n*sz/\n<=cap/\cap<=maxLen/\(n=0\/∃b off,a=some ⟨b,off,none⟩/\PtR cs b off l)
theorem RdS.of_mem {cs':List Chunk} {sz:Nat} {a:Option Addr} {n cap:Nat} {l:List Value} (hp:RdS cs sz a n cap l) (h:∀p∈cs.flatten,p∈cs'.flatten):RdS cs' sz a n cap l:=by
  obtain ⟨h1,h2,h3,h4⟩:=hp
  refine ⟨h1,h2,h3,?_⟩
  rcases h4 with h4|⟨b,off,h4,h5⟩
  · exact .inl h4
  · exact .inr ⟨b,off,h4,h5.of_mem h⟩
theorem RdS.nil (cs:List Chunk) (sz:Nat) (a:Option Addr) (cap:Nat) (hc:cap<=maxLen):RdS cs sz a 0 cap []:=⟨by simp,by simp,hc, .inl rfl⟩
def OwnS (E:TypeId) (sz:Nat) (a:Option Addr) (n cap:Nat) (l:List Value) (c:Chunk):Prop:=
  l.length=n*sz/\((a=none/\n=0/\cap=0/\c=[])\/
    ∃b off cur,a=some ⟨b,off,none⟩/\c=[(b, .cells cur E (0,0))]/\n<=cap/\cap<=maxLen/\off+cap*sz<=cur.size/\(cur.toList.drop off).take (n*sz)=l)
theorem OwnS.nil (E:TypeId) (sz:Nat):OwnS E sz none 0 0 [] []:=⟨by simp, .inl ⟨rfl,rfl,rfl,rfl⟩⟩
theorem OwnS.cap_le {E:TypeId} {sz:Nat} {a:Option Addr} {n cap:Nat} {l:List Value} {c:Chunk} (h:OwnS E sz a n cap l c):n<=cap/\cap<=maxLen:=by
  rcases h.2 with ⟨_,rfl,rfl,_⟩|⟨b,off,cur,_,_,h1,h2,_⟩
  · exact ⟨Nat.le_refl _,by simp [maxLen]⟩
  · exact ⟨h1,h2⟩
theorem OwnS.rd {E:TypeId} {sz:Nat} {a:Option Addr} {n cap:Nat} {l:List Value} {c:Chunk} (h:OwnS E sz a n cap l c) (hm:∀p∈c,p∈cs.flatten):RdS cs sz a n cap l:=by
  have hc:=h.cap_le
  refine ⟨h.1,hc.1,hc.2,?_⟩
  rcases h.2 with ⟨_,rfl,_⟩|⟨b,off,cur,rfl,rfl,h1,_,h3,h4⟩
  · exact .inl rfl
  · exact .inr ⟨b,off,rfl,cur,E,(0,0),hm _ (by simp),by rw [h.1];exact h4⟩
end
end Go.E
namespace Go.E
section
variable {P:Program} {n:Nat} {ρ:Env} {W w:World} {cs:List Chunk} {ops:Array Oper} {rest:List Oper} {N:Env->World->Prop} {o:Oper}
theorem add_off (b off k:Nat):(⟨b,off,none⟩:Addr).add k=⟨b,off+k,none⟩:=by unfold Addr.add;split<;>simp_all
theorem Y_load {t:TypeId} {x:Operand} {p:Addr} {v:Value} (ho:o.op= .load t x) (hag:(isAgg t).run P w= .ok false w) (hx:ev ρ x= .pointer (some p)) (hc:w.cell? p=some v):
    Yields P ρ o v w:=by
  unfold Yields execOp
  rw [ho]
  simp [Instr.loadAt,hx,Instr.sureAddr,loadVar,hag,hc]
theorem Y_loadA {t:TypeId} {x:Operand} {b off k:Nat} {vs:List Value} (ho:o.op= .load t x) (hag:(isAgg t).run P w= .ok true w) (hsz:(sizeOf t).run P w= .ok k w)
    (hx:ev ρ x= .pointer (some ⟨b,off,none⟩)) (hl:vs.length=k) (hS:Sat W w cs) (hp:PtR cs b off vs):Yields P ρ o (.agg vs.toArray) w:=by
  subst hl
  have hc:∀j v,vs[j]?=some v->w.cell? ((⟨b,off,none⟩:Addr).add j)=some v:=fun j v hv=>by rw [add_off];exact hp.cell hS hv
  have hr:=run_loadCells_list (P:=P) w ⟨b,off,none⟩ vs hc
  unfold Yields execOp
  rw [ho]
  simp [Instr.loadAt,hx,Instr.sureAddr,loadVar,hag,hsz,hr]
theorem PtR.blk {b off:Nat} {c:Array Value} {E:TypeId} {f:Nat×Nat} (i:Nat) (hi:cs[i]?=some [(b, .cells c E f)]) {l:List Value} (hl:(c.toList.drop off).take l.length=l):PtR cs b off l:=
  ⟨c,E,f,mem_at i hi,hl⟩
theorem RdS.blk {b sz k:Nat} {c:Array Value} {E:TypeId} {f:Nat×Nat} (i:Nat) (hi:cs[i]?=some [(b, .cells c E f)]) {l:List Value} (hl:c.toList=l) (hk:l.length=k*sz) (hm:k<=maxLen):
    RdS cs sz (some ⟨b,0,none⟩) k k l:=⟨hk,Nat.le_refl _,hm, .inr ⟨b,0,rfl,c,E,f,mem_at i hi,by simp [hl]⟩⟩
def wr (c:Array Value) (off:Nat) (vs:List Value):Array Value:=(c.toList.take off++vs++c.toList.drop (off+vs.length)).toArray
theorem run_store {t:TypeId} {b off k:Nat} {v:Value} {vs:List Value} {c:Array Value} {E:TypeId} (hsz:∀w,(sizeOf t).run P w= .ok k w) (hv:v.cells.toList=vs) (hk:vs.length=k)
    (h1:∀u∈vs,u.oneCell'=true) (hb:w.heap[b]?=some (.cells c E (0,0))) (hfit:off+vs.length<=c.size):
    (Instr.storeAt t (.pointer (some ⟨b,off,none⟩)) v).run P w= .ok () (w.setRow b (wr c off vs)):=by
  have hst:=run_storeCells_at P b off E vs 0 c w hb (by simpa using hfit) h1
  have hc:v.cells.size=k:=by rw [<-hk,<-hv];simp
  simp only [Nat.add_zero] at hst
  simp [Instr.storeAt,Instr.sureAddr,storeVar,hsz,hc,hv,wr,hst]
theorem stepStore {t:TypeId} {x y:Operand} {b off k:Nat} {v:Value} {vs:List Value} {c:Array Value} {E:TypeId} (ho:o.op= .store t x y) (hg:o.guard=none) (hd:o.dst=none)
    (hsz:∀w,(sizeOf t).run P w= .ok k w) (hx:ev ρ x= .pointer (some ⟨b,off,none⟩)) (hy:ev ρ y=v) (hv:v.cells.toList=vs) (hk:vs.length=k)
    (h1:∀u∈vs,u.oneCell'=true) (hS:Sat W w cs) (i:Nat) (hi:cs[i]?=some [(b, .cells c E (0,0))]) (hfit:off+vs.length<=c.size) (c':Array Value) (hc':wr c off vs=c')
    (h:∀w',Sat W w' (cs.set i [(b, .cells c' E (0,0))])->OpsE P n ops rest N ρ w'):OpsE P n ops (o::rest) N ρ w:=by
  subst hc'
  have hr:=run_store (P:=P) (w:=w) hsz hv hk h1 (hS.at i hi) hfit
  refine stepSkip (w':=w.setRow b (wr c off vs)) hg (by rw [hd];rfl) ?_ ?_
  · unfold execOp
    rw [ho]
    simp [hx,hy,hr]
  · rw [hd]
    exact h _ (hS.rowAt i hi _)
def wrL (l:List Value) (off:Nat) (vs:List Value):List Value:=l.take off++vs++l.drop (off+vs.length)
theorem wr_own {cur:Array Value} {off m i:Nat} {vs:List Value} (hm:off+m<=cur.size) (hi:i+vs.length<=m):
    ((wr cur (off+i) vs).toList.drop off).take m=wrL ((cur.toList.drop off).take m) i vs:=by
  have hlen:cur.toList.length=cur.size:=by simp
  apply List.ext_getElem?
  intro j
  simp only [wr,wrL,List.getElem?_take,List.getElem?_drop,List.getElem?_append,List.length_take,List.length_drop,List.length_append,hlen]
  by_cases hj:j<m
  · simp only [hj,if_true]
    by_cases h1:j<i
    · rw [if_pos (by omega),if_pos (by omega),if_pos (by omega),if_pos (by omega),if_pos (by omega),if_pos (by omega)]
      try rw [if_pos (by omega)]
    · by_cases h2:j<i+vs.length
      · rw [if_pos (by omega),if_neg (by omega),if_pos (by omega),if_neg (by omega)]
        congr 1
        omega
      · rw [if_neg (by omega),if_neg (by omega),if_pos (by omega)]
        congr 1
        omega
  · simp only [hj,if_false]
    rw [if_neg (by omega),if_neg (by omega)]
theorem size_wr {c:Array Value} {off:Nat} {vs:List Value} (h:off+vs.length<=c.size):(wr c off vs).size=c.size:=by
  simp [wr]
  omega
theorem stepStoreS {t:TypeId} {x y:Operand} {b off i k sz m cap:Nat} {v:Value} {vs l:List Value} {c:Chunk} {E:TypeId} (ho:o.op= .store t x y) (hg:o.guard=none) (hd:o.dst=none)
    (hsz:∀w,(sizeOf t).run P w= .ok k w) (hO:OwnS E sz (some ⟨b,off,none⟩) m cap l c) (hx:ev ρ x= .pointer (some ⟨b,off+i,none⟩)) (hy:ev ρ y=v) (hv:v.cells.toList=vs) (hk:vs.length=k)
    (h1:∀u∈vs,u.oneCell'=true) (hS:Sat W w cs) (j:Nat) (hj:cs[j]?=some c) (hfit:i+vs.length<=m*sz)
    (h:∀w' c',OwnS E sz (some ⟨b,off,none⟩) m cap (wrL l i vs) c'->Sat W w' (cs.set j c')->OpsE P n ops rest N ρ w'):OpsE P n ops (o::rest) N ρ w:=by
  rcases hO with ⟨hl,⟨h0,_⟩|⟨b',off',cur,he,rfl,hn,hcm,hf,ht⟩⟩
  · cases h0
  · simp only [Option.some.injEq,Addr.mk.injEq,and_true] at he
    obtain ⟨rfl,rfl⟩:=he
    have hms:m*sz<=cap*sz:=Nat.mul_le_mul_right _ hn
    refine stepStore ho hg hd hsz hx hy hv hk h1 hS j hj (by omega) _ rfl fun w' hS'=>h w' _ ⟨?_, .inr ⟨b,off,_,rfl,rfl,hn,hcm,?_,?_⟩⟩ hS'
    · simp [wrL];omega
    · rw [size_wr (by omega)];exact hf
    · rw [wr_own (by omega) hfit,ht]
theorem run_newRow (E:TypeId) (c:Array Value):(newRow E c).run P w= .ok ⟨w.heap.size,0,none⟩ (w.alloc (.cells c E)):=by
  rfl
theorem stepAlloc {t:TypeId} {z:Value} (ho:o.op= .alloc t) (hg:o.guard=none) (hd:dstOK n o.dst=true) (hz:∀w,(zeroValue t).run P w= .ok z w) (hS:Sat W w cs)
    (h:∀b w',Sat W w' ([(b, .cells z.cells t (0,0))]::cs)->OpsE P n ops rest N (put ρ o.dst (.pointer (some ⟨b,0,none⟩))) w'):OpsE P n ops (o::rest) N ρ w:=by
  refine stepRun (v:= .pointer (some ⟨w.heap.size,0,none⟩)) (w':=w.alloc (.cells z.cells t)) hg hd ?_ (h _ _ (hS.alloc _))
  unfold execOp
  rw [ho]
  simp [Instr.alloc,hz,newVar,run_newRow]
theorem stepBox {t:TypeId} {x:Operand} {v:Value} (c:Array Value) (ho:o.op= .box t x) (hg:o.guard=none) (hd:dstOK n o.dst=true) (hx:ev ρ x=v) (hc:v.cells=c) (hS:Sat W w cs)
    (h:∀b w',Sat W w' ([(b, .cells c t (0,0))]::cs)->OpsE P n ops rest N (put ρ o.dst (.pointer (some ⟨b,0,none⟩))) w'):OpsE P n ops (o::rest) N ρ w:=by
  subst hc
  refine stepRun (v:= .pointer (some ⟨w.heap.size,0,none⟩)) (w':=w.alloc (.cells v.cells t)) hg hd ?_ (h _ _ (hS.alloc _))
  unfold execOp
  rw [ho]
  simp [Instr.box,hx,newVar,run_newRow]
theorem stepBuildSlice {t E:TypeId} {len sz:Nat} {parts:Array (Nat×Operand)} {z:Value} (c:Array Value) (ho:o.op= .buildSlice t len parts) (hg:o.guard=none) (hd:dstOK n o.dst=true)
    (hu:∀w,(underlying t).run P w= .ok (.slice E) w) (hsz:∀w,(sizeOf E).run P w= .ok sz w) (hz:∀w,(zeroValue E).run P w= .ok z w) (hlim:Nat.ble (len*sz) (2^24)=true)
    (hf:Instr.fill (fun i=>some (i*sz,sz)) ((Array.range (len*sz)).map ((if len*sz=0 then #[] else z.cells)[·%(if len*sz=0 then #[] else z.cells).size]!)) (parts.map fun (i,x)=>(i,ev ρ x)).toList=some c) (hS:Sat W w cs)
    (h:∀b w',Sat W w' ([(b, .cells c E (0,0))]::cs)->OpsE P n ops rest N (put ρ o.dst (.slice (some ⟨b,0,none⟩) len len)) w'):OpsE P n ops (o::rest) N ρ w:=by
  refine stepRun (v:= .slice (some ⟨w.heap.size,0,none⟩) len len) (w':=w.alloc (.cells c E)) hg hd ?_ (h _ _ (hS.alloc _))
  have hlim':¬(len*sz>2^24):=by have:=Nat.le_of_ble_eq_true hlim;omega
  unfold execOp
  rw [ho]
  by_cases h0:len*sz=0
  · simp only [h0,if_true] at hf
    simp [Instr.buildSlice,hu,hsz,h0]
    simp at hf
    simp [hf,run_newRow]
  · simp only [h0,if_false] at hf
    simp [Instr.buildSlice,hu,hsz,hlim',h0,hz]
    simp at hf
    simp [hf,run_newRow]
theorem stepF {f:FuncId} {xs:Array Operand} {ats:Array TypeId} {args:Array Value} (ho:o.op= .call {callee:= .value (.func f),args:=xs,argTypes:=ats}) (hg:o.guard=none) (hd:dstOK n o.dst=true)
    (hc:∀args w,(callFunc f args).run P w= .ok (.enter f args) w) (hargs:xs.map (ev ρ)=args) (h:Calls P f args w fun e w'=>∃v,e= .returned v/\OpsE P n ops rest N (put ρ o.dst v) w'):
    OpsE P n ops (o::rest) N ρ w:=by
  refine stepCall (f:=f) (args:=args) hg hd ?_ h
  unfold execOp
  rw [ho]
  simp [resolve,ev,Deferred.ofValue,invoke,hargs,hc]
theorem stepClosure {f:FuncId} {t:Tmp} {xs:Array Operand} {ats:Array TypeId} {args cap:Array Value} (ho:o.op= .call {callee:= .value (.tmp t),args:=xs,argTypes:=ats}) (hg:o.guard=none) (hd:dstOK n o.dst=true)
    (hf:ρ t= .func (.func f) #[] cap) (hc:∀args w,(callFunc f args).run P w= .ok (.enter f args) w) (hargs:xs.map (ev ρ)++cap=args)
    (h:Calls P f args w fun e w'=>∃v,e= .returned v/\OpsE P n ops rest N (put ρ o.dst v) w'):OpsE P n ops (o::rest) N ρ w:=by
  refine stepCall (f:=f) (args:=args) hg hd ?_ h
  unfold execOp
  rw [ho]
  simp [resolve,ev,hf,Deferred.ofValue,invoke,hargs,hc]
end
end Go.E
namespace Go.E
section
variable {P:Program} {n:Nat} {ρ:Env} {W w:World} {cs:List Chunk} {ops:Array Oper} {rest:List Oper} {N:Env->World->Prop} {o:Oper}
theorem wrap_i64 {x:Int} (h:-9223372036854775808<=x/\x<=9223372036854775807):IntKind.i64.wrap x=x:=IntWalk.i64_in x h
theorem Y_arith {op:BinOp} {t u:TypeId} {x y:Operand} {a b:Int} {v:Value} (ho:o.op= .binOp op t x y u) (hx:ev ρ x= .int .i64 a) (hy:ev ρ y= .int .i64 b)
    (hr:(binOp op t (.int .i64 a) (.int .i64 b)).run P w= .ok v w):Yields P ρ o v w:=by
  unfold Yields execOp
  rw [ho]
  simp [hx,hy,eqGuard,hr]
theorem Y_add {t u:TypeId} {x y:Operand} {a b:Int} (ho:o.op= .binOp .add t x y u) (hx:ev ρ x= .int .i64 a) (hy:ev ρ y= .int .i64 b)
    (hr:-9223372036854775808<=a+b/\a+b<=9223372036854775807):Yields P ρ o (.int .i64 (a+b)) w:=
  Y_arith ho hx hy (by simp [binOp,Op.intArith,wrap_i64 hr])
theorem Y_sub {t u:TypeId} {x y:Operand} {a b:Int} (ho:o.op= .binOp .sub t x y u) (hx:ev ρ x= .int .i64 a) (hy:ev ρ y= .int .i64 b)
    (hr:-9223372036854775808<=a-b/\a-b<=9223372036854775807):Yields P ρ o (.int .i64 (a-b)) w:=
  Y_arith ho hx hy (by simp [binOp,Op.intArith,wrap_i64 hr])
theorem Y_mul {t u:TypeId} {x y:Operand} {a b:Int} (ho:o.op= .binOp .mul t x y u) (hx:ev ρ x= .int .i64 a) (hy:ev ρ y= .int .i64 b)
    (hr:-9223372036854775808<=a*b/\a*b<=9223372036854775807):Yields P ρ o (.int .i64 (a*b)) w:=
  Y_arith ho hx hy (by simp [binOp,Op.intArith,wrap_i64 hr])
theorem Y_rem {t u:TypeId} {x y:Operand} {a b:Int} (ho:o.op= .binOp .rem t x y u) (hx:ev ρ x= .int .i64 a) (hy:ev ρ y= .int .i64 b) (hb:b≠0):Yields P ρ o (.int .i64 (a.tmod b)) w:=
  Y_arith ho hx hy (by simp [binOp,Op.intDiv,hb])
theorem Y_quo {t u:TypeId} {x y:Operand} {a b:Int} (ho:o.op= .binOp .quo t x y u) (hx:ev ρ x= .int .i64 a) (hy:ev ρ y= .int .i64 b) (hb:0<b)
    (hr:-9223372036854775808<=a/\a<=9223372036854775807):Yields P ρ o (.int .i64 (a.tdiv b)) w:=by
  have hq:-9223372036854775808<=a.tdiv b/\a.tdiv b<=9223372036854775807:=by
    rcases Int.le_total 0 a with ha|ha
    · have h1:=Int.tdiv_nonneg ha (Int.le_of_lt hb)
      have h2:=Int.tdiv_le_self (b:=b) (a:=a) ha
      omega
    · obtain ⟨c,rfl⟩:∃c,a=-c:=⟨-a,by omega⟩
      have hc:0<=c:=by omega
      have h1:=Int.tdiv_nonneg hc (Int.le_of_lt hb)
      have h2:=Int.tdiv_le_self (b:=b) (a:=c) hc
      rw [Int.neg_tdiv]
      omega
  exact Y_arith ho hx hy (by simp [binOp,Op.intDiv,Int.ne_of_gt hb,wrap_i64 hq])
theorem run_sliceBounds {len cap lo hi:Nat} {low high:Option Value} (hlo:(low=none/\lo=0)\/∃k i,low=some (.int k i)/\i.toNat=lo/\0<=i) (hhi:(high=none/\hi=len)\/∃k i,high=some (.int k i)/\i.toNat=hi/\0<=i)
    (h1:lo<=hi) (h2:hi<=cap):(Instr.sliceBounds true len cap low high none).run P w= .ok (lo,hi,cap) w:=by
  have e1:∀(i:Int) (y:Nat),0<=i->i.toNat<=y->(0<=i/\i<=(y:Int)):=fun i y h h'=>⟨h,by omega⟩
  rcases hlo with ⟨rfl,rfl⟩|⟨k,i,rfl,rfl,hi0⟩<;>rcases hhi with ⟨rfl,rfl⟩|⟨k',i',rfl,rfl,hi0'⟩
  · simp [Instr.sliceBounds]
  · simp [Instr.sliceBounds,Instr.sliceBound,asIntOf,e1 _ _ hi0' h2]
  · simp [Instr.sliceBounds,Instr.sliceBound,asIntOf,e1 _ _ hi0 h1]
  · have e2:=e1 i i'.toNat hi0 h1
    have e3:=e1 i' cap hi0' h2
    simp only [Instr.sliceBounds,Instr.sliceBound,asIntOf]
    simp only [Sem.run_bind,Sem.run_pure,Result.andThen,if_pos e3,if_pos e2]
def partAddr (a:Option Addr) (cap lo sz:Nat):Option Addr:=if cap=lo then a else a.map (·.add (lo*sz))
theorem Y_slice {t E:TypeId} {x:Operand} {lo hi mx:Option Operand} {a:Option Addr} {len cap l h sz:Nat} (ho:o.op= .slice t x lo hi mx) (hmx:mx=none) (hu:∀w,(underlying t).run P w= .ok (.slice E) w)
    (hsz:∀w,(sizeOf E).run P w= .ok sz w) (hx:ev ρ x= .slice a len cap)
    (hlo:(lo.map (ev ρ)=none/\l=0)\/∃k i,lo.map (ev ρ)=some (.int k i)/\i.toNat=l/\0<=i) (hhi:(hi.map (ev ρ)=none/\h=len)\/∃k i,hi.map (ev ρ)=some (.int k i)/\i.toNat=h/\0<=i)
    (h1:l<=h) (h2:h<=cap):Yields P ρ o (.slice (partAddr a cap l sz) (h-l) (cap-l)) w:=by
  unfold Yields execOp
  rw [ho,hmx]
  simp [Instr.sliceAt,hu,Instr.slice,hx,run_sliceBounds hlo hhi h1 h2,hsz,partAddr]
theorem RdS.part {a:Option Addr} {len cap lo hi sz:Nat} {l:List Value} (h:RdS cs sz a len cap l) (h1:lo<=hi) (h2:hi<=len):
    RdS cs sz (partAddr a cap lo sz) (hi-lo) (cap-lo) ((l.drop (lo*sz)).take ((hi-lo)*sz)):=by
  obtain ⟨hl,hc,hm,hr⟩:=h
  have hms:hi*sz<=len*sz:=Nat.mul_le_mul_right _ h2
  have hms2:lo*sz<=hi*sz:=Nat.mul_le_mul_right _ h1
  have hsub:(hi-lo)*sz=hi*sz-lo*sz:=Nat.sub_mul ..
  refine ⟨by simp;omega,by omega,by omega,?_⟩
  by_cases he:hi-lo=0
  · exact .inl he
  · rcases hr with hr|⟨b,off,rfl,hp⟩
    · omega
    · have hne:¬cap=lo:=by omega
      refine .inr ⟨b,off+lo*sz,by simp [partAddr,hne,add_off],?_⟩
      exact hp.sub _ _ (by omega)
theorem OwnS.part {E:TypeId} {a:Option Addr} {len cap lo hi sz:Nat} {l:List Value} {c:Chunk} (h:OwnS E sz a len cap l c) (h1:lo<=hi) (h2:hi<=len):
    OwnS E sz (partAddr a cap lo sz) (hi-lo) (cap-lo) ((l.drop (lo*sz)).take ((hi-lo)*sz)) c:=by
  obtain ⟨hl,hr⟩:=h
  have hms:hi*sz<=len*sz:=Nat.mul_le_mul_right _ h2
  have hms2:lo*sz<=hi*sz:=Nat.mul_le_mul_right _ h1
  have hsub:(hi-lo)*sz=hi*sz-lo*sz:=Nat.sub_mul ..
  refine ⟨by simp;omega,?_⟩
  rcases hr with ⟨rfl,rfl,rfl,rfl⟩|⟨b,off,cur,rfl,rfl,hn,hcm,hf,ht⟩
  · have:lo=0:=by omega
    have:hi=0:=by omega
    subst_vars
    exact .inl ⟨by simp [partAddr],by simp,by simp,rfl⟩
  · right
    by_cases hne:cap=lo
    · have h0:hi=lo:=by omega
      subst h0
      exact ⟨b,off,cur,by simp [partAddr,hne],rfl,by omega,by omega,by rw [hne];simp;omega,by simp⟩
    · refine ⟨b,off+lo*sz,cur,by simp [partAddr,hne,add_off],rfl,by omega,by omega,?_,?_⟩
      · have:(cap-lo)*sz=cap*sz-lo*sz:=Nat.sub_mul ..
        have:lo*sz<=cap*sz:=Nat.mul_le_mul_right _ (by omega)
        omega
      · rw [<-ht,List.drop_take,List.take_take,List.drop_drop]
        congr 1
        omega
theorem Y_indexAddr {t E:TypeId} {x y:Operand} {p:Addr} {k:IntKind} {i:Int} {len cap sz:Nat} (ho:o.op= .indexAddr t x y) (hu:∀w,(underlying t).run P w= .ok (.slice E) w) (hsz:∀w,(sizeOf E).run P w= .ok sz w)
    (hx:ev ρ x= .slice (some p) len cap) (hy:ev ρ y= .int k i) (h0:0<=i) (h1:i<len):Yields P ρ o (.pointer (some (p.add (i.toNat*sz)))) w:=by
  unfold Yields execOp
  rw [ho]
  simp [Instr.indexAt,hx,hy,asIntOf,hu,hsz,h0,h1]
theorem stepIdx {t E:TypeId} {x y:Operand} {a:Option Addr} {k:IntKind} {i:Int} {len cap sz:Nat} {l:List Value} (ho:o.op= .indexAddr t x y) (hg:o.guard=none) (hd:dstOK n o.dst=true)
    (hu:∀w,(underlying t).run P w= .ok (.slice E) w) (hsz:∀w,(sizeOf E).run P w= .ok sz w)
    (hx:ev ρ x= .slice a len cap) (hy:ev ρ y= .int k i) (hR:RdS cs sz a len cap l) (h0:0<=i) (h1:i<len)
    (h:∀b off,PtR cs b off ((l.drop (i.toNat*sz)).take sz)->OpsE P n ops rest N (put ρ o.dst (.pointer (some ⟨b,off,none⟩))) w):OpsE P n ops (o::rest) N ρ w:=by
  obtain ⟨hl,hc,hm,hr⟩:=hR
  rcases hr with hr|⟨b,off,rfl,hp⟩
  · omega
  · have hlt:i.toNat+1<=len:=by omega
    have hms:(i.toNat+1)*sz<=len*sz:=Nat.mul_le_mul_right _ hlt
    rw [Nat.add_mul,Nat.one_mul] at hms
    refine stepY _ hg hd (Y_indexAddr ho hu hsz hx hy h0 h1) ?_
    rw [add_off]
    exact h b _ (hp.sub _ _ (by omega))
theorem stepIdxOwn {t E:TypeId} {x y:Operand} {a:Option Addr} {k:IntKind} {i:Int} {len cap sz:Nat} {l:List Value} {c:Chunk} (ho:o.op= .indexAddr t x y) (hg:o.guard=none) (hd:dstOK n o.dst=true)
    (hu:∀w,(underlying t).run P w= .ok (.slice E) w) (hsz:∀w,(sizeOf E).run P w= .ok sz w)
    (hx:ev ρ x= .slice a len cap) (hy:ev ρ y= .int k i) (hO:OwnS E sz a len cap l c) (h0:0<=i) (h1:i<len)
    (h:∀b off,a=some ⟨b,off,none⟩->OpsE P n ops rest N (put ρ o.dst (.pointer (some ⟨b,off+i.toNat*sz,none⟩))) w):OpsE P n ops (o::rest) N ρ w:=by
  rcases hO with ⟨hl,⟨_,rfl,_⟩|⟨b,off,cur,rfl,rfl,hn,hcm,hf,ht⟩⟩
  · omega
  · refine stepY _ hg hd (Y_indexAddr ho hu hsz hx hy h0 h1) ?_
    rw [add_off]
    exact h b off rfl
theorem run_append_room' (t ty e:TypeId) (i:TypeInfo) (ht:P.underlying t=some (.slice e)) (hi:P.info? e=some i)
    (g off sLen sCap:Nat) (cur:Array Value) (hg:w.heap[g]?=some (.cells cur e (0,0)))
    (a:Option Addr) (m c:Nat) (news:List Value) (hf:(Builtin.firstCells i.size m (.slice a m c)).run P w= .ok news.toArray w) (h1:∀u∈news,u.oneCell'=true)
    (hroom:sLen+m<=sCap) (hfit:off+sLen*i.size+news.length<=cur.size):
    (Builtin.append_ #[t,t] ty #[.slice (some ⟨g,off,none⟩) sLen sCap, .slice a m c]).run P w=
      .ok (.slice (some ⟨g,off,none⟩) (sLen+m) sCap) (w.setRow g (wr cur (off+sLen*i.size) news)):=by
  have hst:=run_storeCells_at P g (off+sLen*i.size) e news 0 cur w hg (by simpa using hfit) h1
  simp only [Nat.add_zero] at hst
  simp [Builtin.append_,run_underlying ht,sizeOf,typeInfo,hi,Builtin.lenOf,hroom,hf,add_off,hst,wr]
theorem run_firstCells_rd {sz m c:Nat} {a:Option Addr} {l:List Value} (hS:Sat W w cs) (hR:RdS cs sz a m c l):(Builtin.firstCells sz m (.slice a m c)).run P w= .ok l.toArray w:=by
  obtain ⟨hl,hc,hm,hr⟩:=hR
  rcases hr with rfl|⟨b,off,rfl,hp⟩
  · have:l=[]:=List.eq_nil_of_length_eq_zero (by simpa using hl)
    subst this
    cases a with
    |none=>exact run_firstCells_none w _ _ _ _
    |some p=>exact run_firstCells_some (P:=P) w sz 0 p 0 c [] (by simp) (by simp)
  · exact run_firstCells_some (P:=P) w sz m ⟨b,off,none⟩ m c l hl (fun j v hv=>by rw [add_off];exact hp.cell hS hv)
theorem run_append_grow' (t ty e:TypeId) (i:TypeInfo) (z:Value) (ht:P.underlying t=some (.slice e)) (hi:P.info? e=some i) (hz:i.zero=some z)
    (b:Option Addr) (sLen sCap:Nat) (olds:List Value) (hfo:∀w':World,w'.heap=w.heap->(Builtin.firstCells i.size sLen (.slice b sLen sCap)).run P w'= .ok olds.toArray w')
    (a:Option Addr) (m c:Nat) (news:List Value) (hf:∀w':World,w'.heap=w.heap->(Builtin.firstCells i.size m (.slice a m c)).run P w'= .ok news.toArray w')
    (hg:sCap<sLen+m) (h63:((sLen+m:Nat):Int)<=9223372036854775807) (hfit:Builtin.nextslicecap (sLen+m) sCap*i.bytes<=281474976710656):
    (Builtin.append_ #[t,t] ty #[.slice b sLen sCap, .slice a m c]).run P w=
      .ok (.slice (some ⟨w.heap.size,0,none⟩) (sLen+m) (grownCap w (sLen+m) sCap e))
        (w.drew.alloc (.cells ((olds++news).toArray++Builtin.zeroCells z.cells (grownCap w (sLen+m) sCap e-(sLen+m))) e)):=by
  have hn:¬(sLen+m<=sCap):=by omega
  have h63':¬(9223372036854775807<((sLen:Int)+(m:Int))):=by omega
  have h48':¬(281474976710656<Builtin.nextslicecap (sLen+m) sCap*i.bytes):=by omega
  have hf1:=hf w.drew rfl
  have hf2:=hfo w.drew rfl
  simp [Builtin.append_,run_underlying ht,sizeOf,typeInfo,zeroValue,hi,hz,Builtin.lenOf,hn,h63',h48',Question.forced,hf1,hf2,newRow,grownCap]
  have e2:∀Z:Array Value,olds.toArray++(news.toArray++Z)=(olds++news).toArray++Z:=fun Z=>by
    rw [<-Array.append_assoc]
    simp
  rw [e2]
theorem cells_ext {w':World} {sz m c:Nat} {a:Option Addr} {l:List Value} (hS:Sat W w cs) (hR:RdS cs sz a m c l) (e:w'.heap=w.heap):(Builtin.firstCells sz m (.slice a m c)).run P w'= .ok l.toArray w':=
  run_firstCells_rd (W:=w') (cs:=cs) ⟨rfl,rfl,rfl,hS.nd,fun p hp=>by rw [e];exact hS.all p hp⟩ hR
theorem run_append {t ty E:TypeId} {i:TypeInfo} {z:Value} {sz nb:Nat} (ht:P.underlying t=some (.slice E)) (hi:P.info? E=some i) (hz:i.zero=some z) (hsize:i.size=sz) (hby:i.bytes=nb) (hzs:z.cells.size=sz)
    {a a2:Option Addr} {m cap k c2:Nat} {l news:List Value} {c:Chunk} (hS:Sat W w cs) (hO:OwnS E sz a m cap l c) (j:Nat) (hj:cs[j]?=some c) (hR:RdS cs sz a2 k c2 news) (h1:∀u∈news,u.oneCell'=true)
    (hb:(m+k)*nb<=140737488355328) (h63:m+k<=maxLen):
    ∃a' cap' c' w',(Builtin.append_ #[t,t] ty #[.slice a m cap, .slice a2 k c2]).run P w= .ok (.slice a' (m+k) cap') w'/\OwnS E sz a' (m+k) cap' (l++news) c'/\Sat W w' (cs.set j c'):=by
  subst hsize;subst hby
  have hOr:RdS cs i.size a m cap l:=hO.rd (fun p hp=>mem_in j hj hp)
  have hlen:(l++news).length=(m+k)*i.size:=by rw [List.length_append,hO.1,hR.1,Nat.add_mul]
  have hOn:m<=cap:=hO.cap_le.1
  have h63b:m+k<=9223372036854775807:=by simp only [maxLen] at h63;omega
  by_cases hroom:m+k<=cap
  · rcases hO.2 with ⟨rfl,rfl,rfl,rfl⟩|⟨b,off,cur,rfl,rfl,hn,hcm,hf,htk⟩
    · have hk:k=0:=by omega
      subst hk
      have hn:news=[]:=List.eq_nil_of_length_eq_zero (by simpa using hR.1)
      have hl0:l=[]:=List.eq_nil_of_length_eq_zero (by simpa using hO.1)
      subst hn;subst hl0
      have hfc:=run_firstCells_rd (P:=P) hS hR
      refine ⟨none,0,[],w,?_,OwnS.nil E i.size,hS.set j hj (fun h=>h)⟩
      simp [Builtin.append_,run_underlying ht,sizeOf,typeInfo,hi,Builtin.lenOf,hfc]
    · have hms:(m+k)*i.size<=cap*i.size:=Nat.mul_le_mul_right _ hroom
      have hadd:(m+k)*i.size=m*i.size+k*i.size:=Nat.add_mul ..
      have hnl:=hR.1
      have hr:=run_append_room' (P:=P) (w:=w) t ty E i ht hi b off m cap cur (hS.at j hj) a2 k c2 news (run_firstCells_rd (P:=P) hS hR) h1 hroom (by omega)
      refine ⟨_,cap,_,_,hr,⟨hlen, .inr ⟨b,off,_,rfl,rfl,hroom,hcm,?_,?_⟩⟩,hS.rowAt j hj _⟩
      · rw [size_wr (by omega)];exact hf
      · have:=wr_own (cur:=cur) (off:=off) (m:=(m+k)*i.size) (i:=m*i.size) (vs:=news) (by omega) (by omega)
        rw [this]
        have e1:((cur.toList.drop off).take ((m+k)*i.size)).take (m*i.size)=l:=by
          rw [List.take_take,Nat.min_eq_left (by omega),htk]
        have e2:((cur.toList.drop off).take ((m+k)*i.size)).drop (m*i.size+news.length)=[]:=by
          apply List.drop_eq_nil_of_le
          simp
          omega
        simp [wrL,e1,e2]
  · have hcap:cap<m+k:=by omega
    have hr:=run_append_grow' (P:=P) (w:=w) t ty E i z ht hi hz a m cap l (fun w' e=>cells_ext hS hOr e) a2 k c2 news (fun w' e=>cells_ext hS hR e) hcap (by omega) (growslice_fits hcap hb)
    have hge:=grownCap_ge w (m+k) cap E
    refine ⟨_,_,[(w.heap.size, .cells ((l++news).toArray++Builtin.zeroCells z.cells (grownCap w (m+k) cap E-(m+k))) E)],_,hr,⟨hlen, .inr ⟨w.heap.size,0,_,rfl,rfl,hge,grownCap_le_maxLen w _ _ _ h63,?_,?_⟩⟩,?_⟩
    · simp only [Array.size_append,List.size_toArray,size_zeroCells,hzs,hlen,<-Nat.add_mul,Nat.zero_add]
      exact Nat.le_of_eq (by congr 1;omega)
    · simp only [Array.toList_append,List.drop_zero]
      rw [<-hlen]
      exact List.take_left
    · have hS2:Sat W w.drew cs:=hS.drew
      have h3:=(hS2.alloc (.cells ((l++news).toArray++Builtin.zeroCells z.cells (grownCap w (m+k) cap E-(m+k))) E))
      have h4:=h3.pick0 (j+1) (by simpa using hj)
      have h5:=h4.tail
      simp only [List.eraseIdx_cons_succ] at h5
      refine h5.perm ?_
      have h6:=(flatten_set cs j c [(w.heap.size, .cells ((l++news).toArray++Builtin.zeroCells z.cells (grownCap w (m+k) cap E-(m+k))) E)] hj).symm
      exact h6
theorem stepAppend {t E:TypeId} {xs:Array Operand} {ats:Array TypeId} {x y:Operand} {i:TypeInfo} {z:Value} {sz nb:Nat} (ho:o.op= .call {callee:= .builtin .append,args:=xs,argTypes:=ats}) (hxs:xs=#[x,y]) (hats:ats=#[t,t]) (hg:o.guard=none) (hd:dstOK n o.dst=true)
    (ht:P.underlying t=some (.slice E)) (hi:P.info? E=some i) (hz:i.zero=some z) (hsize:i.size=sz) (hby:i.bytes=nb) (hzs:z.cells.size=sz)
    {a a2:Option Addr} {m cap k c2:Nat} {l news:List Value} {c:Chunk} (hx:ev ρ x= .slice a m cap) (hy:ev ρ y= .slice a2 k c2) (hS:Sat W w cs) (hO:OwnS E sz a m cap l c) (j:Nat) (hj:cs[j]?=some c) (hR:RdS cs sz a2 k c2 news) (h1:∀u∈news,u.oneCell'=true)
    (hb:(m+k)*nb<=140737488355328) (h63:m+k<=maxLen)
    (h:∀a' cap' c' w',OwnS E sz a' (m+k) cap' (l++news) c'->Sat W w' (cs.set j c')->OpsE P n ops rest N (put ρ o.dst (.slice a' (m+k) cap')) w'):OpsE P n ops (o::rest) N ρ w:=by
  obtain ⟨a',cap',c',w',hr,hO',hS'⟩:=run_append (P:=P) (ty:=o.type) ht hi hz hsize hby hzs hS hO j hj hR h1 hb h63
  refine stepRun (v:= .slice a' (m+k) cap') (w':=w') hg hd ?_ (h a' cap' c' w' hO' hS')
  subst hxs;subst hats
  unfold execOp
  rw [ho]
  simp only [resolve,invoke,builtin,List.map_toArray,List.map_cons,List.map_nil,hx,hy]
  simp [hr]
theorem stepMake {t E:TypeId} {x y:Operand} {i:TypeInfo} {z:Value} {sz nb:Nat} {kl kc:IntKind} {m:Nat} (ho:o.op= .makeSlice t x y) (hg:o.guard=none) (hd:dstOK n o.dst=true)
    (ht:P.underlying t=some (.slice E)) (hi:P.info? E=some i) (hz:i.zero=some z) (hsize:i.size=sz) (hby:i.bytes=nb)
    (hx:ev ρ x= .int kl m) (hy:ev ρ y= .int kc m) (hS:Sat W w cs) (hb:nb*m<=281474976710656) (h63:m<=maxLen)
    (h:∀b c w',OwnS E sz (some ⟨b,0,none⟩) m m (madeCells z.cells (m*sz)).toList c->Sat W w' (c::cs)->OpsE P n ops rest N (put ρ o.dst (.slice (some ⟨b,0,none⟩) m m)) w'):OpsE P n ops (o::rest) N ρ w:=by
  subst hby
  obtain ⟨w',hr,ho',hgr⟩:=run_make_full (P:=P) w w.heap.size t E i z sz ht hi hz hsize kl kc m hb h63 (Nat.le_refl _)
  obtain ⟨hl,⟨h0,_⟩|⟨g,cap,cur,he,hge,hh,hn,hcm,hcs,htk⟩⟩:=ho'
  · cases h0
  · simp only [Value.slice.injEq,Option.some.injEq,Addr.mk.injEq,and_true] at he
    obtain ⟨he,_,hcap⟩:=he
    subst he;subst hcap
    refine stepRun (v:= .slice (some ⟨w.heap.size,0,none⟩) m m) (w':=w') hg hd ?_ (h w.heap.size [(w.heap.size, .cells cur E (0,0))] w' ⟨hl, .inr ⟨w.heap.size,0,cur,rfl,rfl,hn,hcm,by omega,by simpa using htk⟩⟩ ?_)
    · unfold execOp
      rw [ho]
      simp [hx,hy,hr]
    · refine ⟨hgr.os.trans hS.os,hgr.tape.trans hS.tape,hgr.output.trans hS.output,?_,?_⟩
      · simp only [List.flatten_cons,List.singleton_append,List.map_cons,List.nodup_cons]
        refine ⟨fun hm=>?_,hS.nd⟩
        obtain ⟨p,hp,he⟩:=List.mem_map.1 hm
        have:=hS.lt (b:=p.1) (o:=p.2) hp
        omega
      · intro p hp
        simp only [List.flatten_cons,List.singleton_append,List.mem_cons] at hp
        rcases hp with rfl|hp
        · exact hh
        · have hl:=hS.lt (b:=p.1) (o:=p.2) hp
          rw [hgr.block p.1 hl (by simp)]
          exact hS.all p hp
end
end Go.E
