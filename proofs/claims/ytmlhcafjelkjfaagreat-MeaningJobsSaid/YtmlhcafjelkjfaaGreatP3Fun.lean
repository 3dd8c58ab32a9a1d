import Derived.WalkKit
import Derived.Deep.Quiet
import Derived.KernelRfl
import Derived.Laws.BytesString
import Derived.Laws.Shifts
import Derived.Laws.IdiomStrings
import Derived.Test.YtmlhcafjelkjfaaGreatP3Walk
namespace Go.E
set_option linter.unusedVariables false
set_option linter.unusedSimpArgs false
theorem Sat.flat {W w:World} {cs:List Chunk} (h:Sat W w cs):Sat W w [cs.flatten]:=h.perm (by simp)
theorem Sat.unflat {W w:World} {cs:List Chunk} (h:Sat W w [cs.flatten]):Sat W w cs:=h.perm (by simp)
theorem Sat.flat1 {W w:World} {c:Chunk} {cs:List Chunk} (h:Sat W w (c::cs)):Sat W w [c,cs.flatten]:=h.perm (by simp)
theorem Sat.flat2 {W w:World} {c d:Chunk} {cs:List Chunk} (h:Sat W w (c::d::cs)):Sat W w [c,d,cs.flatten]:=h.perm (by simp)
theorem Sat.unflat1 {W w:World} {c:Chunk} {cs:List Chunk} (h:Sat W w [c,cs.flatten]):Sat W w (c::cs):=h.perm (by simp)
theorem Sat.unflat2 {W w:World} {c d:Chunk} {cs:List Chunk} (h:Sat W w [c,d,cs.flatten]):Sat W w (c::d::cs):=h.perm (by simp)
theorem Sat.unflat3 {W w:World} {c d e:Chunk} {cs:List Chunk} (h:Sat W w [c,d,e,cs.flatten]):Sat W w (c::d::e::cs):=h.perm (by simp)
theorem Sat.unflatc {W w:World} {c d e:Chunk} {cs:List Chunk} (h:Sat W w (c::d::e::[cs.flatten])):Sat W w (c::d::e::cs):=h.perm (by simp)
theorem mem_flat {cs:List Chunk}:∀p∈cs.flatten,p∈[cs.flatten].flatten:=by intro p h;simpa using h
theorem mem_flat1 {cs:List Chunk} {c:Chunk} (i:Nat) (h:cs[i]?=some c):∀p∈[c].flatten,p∈[cs.flatten].flatten:=by
  intro p hp
  simp only [List.flatten_cons,List.flatten_nil,List.append_nil] at hp⊢
  exact List.mem_flatten.2 ⟨c,List.mem_of_getElem? h,hp⟩
theorem RdT.flat {α:Type} {enc:α->List Value} {sz:Nat} {cs:List Chunk} {a:Option Addr} {n k:Nat} {xs:List α} (h:RdT enc sz cs a n k xs):RdT enc sz [cs.flatten] a n k xs:=h.of_mem mem_flat
theorem OwnT.elem {α:Type} {enc:α->List Value} {E sz:Nat} {a:Option Addr} {len cap:Nat} {xs:List α} {c:Chunk} (hO:OwnT enc E sz a len cap xs c) (i:Int) (h0:0<=i:=by omega) (h1:i<len:=by first|omega|decide):
    ∃x b off,xs[i.toNat]?=some x/\PtR [c] b (off+i.toNat*sz) (enc x)/\ElemAt a i len sz b (off+i.toNat*sz)/\a=some ⟨b,off,none⟩:=by
  obtain ⟨x,b,o,hx,hp,he⟩:=RdT.elem (hO.rdAt (cs:=[c]) 0 rfl) i h0 h1
  rcases hO.2.2 with ⟨hl,⟨_,ha,_⟩|⟨b',off',cur,ha,_⟩⟩
  · omega
  · have he2:=he
    obtain ⟨p,hp1,hp2,_⟩:=he2
    rw [ha] at hp1
    simp only [Option.some.injEq] at hp1
    subst hp1
    rw [add_off] at hp2
    simp only [Addr.mk.injEq] at hp2
    obtain ⟨rfl,rfl,_⟩:=hp2
    exact ⟨x,b',off',hx,hp,he,ha⟩
theorem take_succ_at {α:Type} {xs:List α} {i:Nat} {x:α} (h:xs[i]?=some x):xs.take (i+1)=xs.take i++[x]:=by
  rw [List.take_add_one,h,Option.toList_some]
theorem take_eq_succ {α:Type} {xs ys:List α} {i:Nat} {x y:α} (h:xs.take i=ys.take i) (hx:xs[i]?=some x) (hy:ys[i]?=some y) (e:x=y):xs.take (i+1)=ys.take (i+1):=by
  rw [take_succ_at hx,take_succ_at hy,h,e]
theorem ne_of_at {α:Type} {xs ys:List α} {i:Nat} {x y:α} (hx:xs[i]?=some x) (hy:ys[i]?=some y) (e:x≠y):xs≠ys:=by
  intro h;subst h;rw [hx] at hy;exact e (Option.some.inj hy)
theorem eq_of_take {α:Type} {xs ys:List α} {i:Nat} (h:xs.take i=ys.take i) (h1:xs.length<=i) (h2:ys.length<=i):xs=ys:=by
  rwa [List.take_of_length_le h1,List.take_of_length_le h2] at h
theorem map_at {α β:Type} {f:α->β} {xs:List α} {i:Nat} {x:α} (h:xs[i]?=some x):(xs.map f)[i]?=some (f x):=by rw [List.getElem?_map,h];rfl
theorem all_succ {α:Type} {p:α->Bool} {xs:List α} {i:Nat} {x:α} (h:(xs.take i).all p=true) (hx:xs[i]?=some x) (e:p x=true):(xs.take (i+1)).all p=true:=by
  rw [take_succ_at hx,List.all_append,h];simp [e]
theorem all_take_succ {α:Type} {p:α->Bool} {xs:List α} {i:Nat} {x:α} (hx:xs[i]?=some x):(xs.take (i+1)).all p=((xs.take i).all p&&p x):=by
  rw [take_succ_at hx,List.all_append];simp
theorem all_take_false {α:Type} {p:α->Bool} {xs:List α} {i:Nat} {A:Bool} (h:(A&&(xs.take i).all p)=false):(A&&(xs.take (i+1)).all p)=false:=by
  rw [Bool.and_eq_false_iff] at*
  rcases h with h|h
  · exact .inl h
  · right
    rw [List.all_eq_false] at*
    obtain ⟨x,hx,hp⟩:=h
    have e:xs.take i=(xs.take (i+1)).take i:=by rw [List.take_take];congr 1;omega
    rw [e] at hx
    exact ⟨x,List.mem_of_mem_take hx,hp⟩
theorem set_rep {α β:Type} {f:α->β} {l:List α} {i n:Nat} {x:α} {z:β} (hx:l[i]?=some x) (hi:i<n):((l.take i).map f++List.replicate (n-i) z).set i (f x)=(l.take (i+1)).map f++List.replicate (n-(i+1)) z:=by
  have hl:i<l.length:=(List.getElem?_eq_some_iff.1 hx).1
  have h1:((l.take i).map f).length=i:=by simp;omega
  rw [List.set_append_right _ _ (by omega),h1,Nat.sub_self,take_succ_at hx]
  have h2:n-i=(n-(i+1))+1:=by omega
  rw [h2,List.replicate_succ,List.set_cons_zero]
  simp
theorem all_false_at {α:Type} {p:α->Bool} {xs:List α} {i:Nat} {x:α} (hx:xs[i]?=some x) (e:p x=false):xs.all p=false:=by
  rw [List.all_eq_false];exact ⟨x,List.mem_of_getElem? hx,by simp [e]⟩
theorem all_of_take {α:Type} {p:α->Bool} {xs:List α} {i:Nat} (h:(xs.take i).all p=true) (h1:xs.length<=i):xs.all p=true:=by
  rwa [List.take_of_length_le h1] at h
theorem bool_em (a b:Bool):a=b\/¬a=b:=Decidable.em _
section
variable {P:Program} {n:Nat} {ρ:Env} {w:World} {o:Oper}
theorem Int.ediv_eq_of_lt_floor {x d q:Int} (hd:0<d) (h1:d*q<=x) (h2:x<d*q+d):x/d=q:=by
  have h3:x-d*q=x-q*d:=by rw [Int.mul_comm]
  have h4:x=(x-d*q)+d*q:=by omega
  rw [h4,Int.add_mul_ediv_left _ _ (by omega),Int.ediv_eq_zero_of_lt (by omega) (by omega),Int.zero_add]
theorem min_if (x y:Int):(if y<x then y else x)=min x y:=by rw [Int.min_def];split<;>split<;>omega
theorem max_if (x y:Int):(if y>x then y else x)=max x y:=by rw [Int.max_def];split<;>split<;>omega
theorem Y_min2 {xs:Array Operand} {ats:Array TypeId} {x y:Operand} (a b:Int) (ho:o.op= .call {callee:= .builtin .min,args:=xs,argTypes:=ats}) (hxs:xs=#[x,y]) (hx:ev ρ x= .int .i64 a) (hy:ev ρ y= .int .i64 b):
    Yields P ρ o (.int .i64 (min a b)) w:=by
  subst hxs
  unfold Yields execOp
  rw [ho]
  simp [hx,hy,resolve,invoke,builtin,Builtin.min_,Builtin.min2,min_if]
theorem Y_max2 {xs:Array Operand} {ats:Array TypeId} {x y:Operand} (a b:Int) (ho:o.op= .call {callee:= .builtin .max,args:=xs,argTypes:=ats}) (hxs:xs=#[x,y]) (hx:ev ρ x= .int .i64 a) (hy:ev ρ y= .int .i64 b):
    Yields P ρ o (.int .i64 (max a b)) w:=by
  subst hxs
  unfold Yields execOp
  rw [ho]
  simp [hx,hy,resolve,invoke,builtin,Builtin.max_,Builtin.max2,max_if]
theorem Y_min4 {xs:Array Operand} {ats:Array TypeId} {x y z u:Operand} (a b c d:Int) (ho:o.op= .call {callee:= .builtin .min,args:=xs,argTypes:=ats}) (hxs:xs=#[x,y,z,u]) (hx:ev ρ x= .int .i64 a) (hy:ev ρ y= .int .i64 b) (hz:ev ρ z= .int .i64 c) (hu:ev ρ u= .int .i64 d):
    Yields P ρ o (.int .i64 (min (min (min a b) c) d)) w:=by
  subst hxs
  unfold Yields execOp
  rw [ho]
  simp [hx,hy,hz,hu,resolve,invoke,builtin,Builtin.min_,Builtin.min2,min_if]
theorem Y_max4 {xs:Array Operand} {ats:Array TypeId} {x y z u:Operand} (a b c d:Int) (ho:o.op= .call {callee:= .builtin .max,args:=xs,argTypes:=ats}) (hxs:xs=#[x,y,z,u]) (hx:ev ρ x= .int .i64 a) (hy:ev ρ y= .int .i64 b) (hz:ev ρ z= .int .i64 c) (hu:ev ρ u= .int .i64 d):
    Yields P ρ o (.int .i64 (max (max (max a b) c) d)) w:=by
  subst hxs
  unfold Yields execOp
  rw [ho]
  simp [hx,hy,hz,hu,resolve,invoke,builtin,Builtin.max_,Builtin.max2,max_if]
theorem Y_shl1 {t u:TypeId} {x y:Operand} {k':IntKind} (s:Int) (ho:o.op= .binOp .shl t x y u) (hx:ev ρ x= .int .i64 1) (hy:ev ρ y= .int k' s) (hs:0<=s/\s<=60):
    Yields P ρ o (.int .i64 (2^s.toNat)) w:=by
  refine Y_shl .i64 k' 1 s _ _ ho hx hy hs.1 rfl ?_
  have h1:min s.toNat IntKind.i64.bits=s.toNat:=by simp [IntKind.bits];omega
  rw [h1,Int.one_mul]
  have h2:(2:Int)^s.toNat<=2^60:=by exact_mod_cast Nat.pow_le_pow_right (by decide) (by omega)
  have h3:(0:Int)<=2^s.toNat:=Int.pow_nonneg (by decide)
  exact wrapIn_i64 _ (by omega)
theorem pow2_pos (k:Nat):0<(2:Int)^k:=Int.pow_pos (by decide)
theorem pow2_le {a b:Nat} (h:a<=b):(2:Int)^a<=2^b:=by exact_mod_cast Nat.pow_le_pow_right (by decide) h
theorem tdiv_floor {x d:Int} (hd:0<d):(if x.tdiv d*d>x then x.tdiv d-1 else x.tdiv d)=x/d:=by
  have h1:=Int.mul_tdiv_add_tmod x d
  have h2:x.tmod d<d:=Int.tmod_lt_of_pos x hd
  have h3:-d<x.tmod d:=Int.lt_tmod_of_pos x hd
  have h4:=Int.mul_ediv_add_emod x d
  have h5:=Int.emod_nonneg x (by omega:d≠0)
  have h6:=Int.emod_lt_of_pos x hd
  have e:x.tdiv d*d=d*x.tdiv d:=Int.mul_comm _ _
  split
  · rename_i h
    rw [e] at h
    have:d*(x/d)=d*(x.tdiv d-1)\/True:= .inr trivial
    refine (Int.ediv_eq_of_lt_floor hd ?_ ?_).symm
    · rw [Int.mul_sub];omega
    · rw [Int.mul_sub];omega
  · rename_i h
    rw [e] at h
    refine (Int.ediv_eq_of_lt_floor hd ?_ ?_).symm<;>omega
theorem abs_le_mul {q d A:Int} (hd:0<d) (h:-A<=q*d/\q*d<=A):-A<=q/\q<=A:=by
  have h1:q.natAbs<=(q*d).natAbs:=by
    rw [Int.natAbs_mul]
    exact Nat.le_mul_of_pos_right _ (by omega)
  omega
theorem mul_bd {a b A B:Int} (ha:0<=a/\a<=A) (hb:0<=b/\b<=B):0<=a*b/\a*b<=A*B:=
  ⟨Int.mul_nonneg ha.1 hb.1,Int.mul_le_mul ha.2 hb.2 hb.1 (by omega)⟩
theorem mul_abs {a b A B:Int} (ha:-A<=a/\a<=A) (hb:-B<=b/\b<=B):-(A*B)<=a*b/\a*b<=A*B:=by
  have h1:a.natAbs*b.natAbs<=A.natAbs*B.natAbs:=Nat.mul_le_mul (by omega) (by omega)
  rw [<-Int.natAbs_mul,<-Int.natAbs_mul] at h1
  have h2:0<=A*B:=Int.mul_nonneg (by omega) (by omega)
  omega
theorem Y_neg {t:TypeId} {x:Operand} (a:Int) (ho:o.op= .unOp .neg t x) (hx:ev ρ x= .int .i64 a) (hr:-9223372036854775807<=a/\a<=9223372036854775807:=by omega):
    Yields P ρ o (.int .i64 (-a)) w:=by
  unfold Yields execOp
  rw [ho]
  have h:=wrapIn_i64 (-a) (by omega)
  simp [hx,Op.unary,Op.intArith,h]
theorem abs_mul_le {a b x y l:Int} (hx:x=a\/x=-a) (hy:y=b\/y=-b) (hx0:0<=x) (hy0:0<=y) (h:x*y<=l):-l<=a*b/\a*b<=l:=by
  have h0:=Int.mul_nonneg hx0 hy0
  rcases hx with rfl|rfl<;>rcases hy with rfl|rfl<;>(try simp only [Int.neg_mul,Int.mul_neg,Int.neg_neg] at h h0)<;>omega
theorem abs_mul_gt {a b x y l:Int} (hx:x=a\/x=-a) (hy:y=b\/y=-b) (h:l<x*y):¬(-l<=a*b/\a*b<=l):=by
  rcases hx with rfl|rfl<;>rcases hy with rfl|rfl<;>(try simp only [Int.neg_mul,Int.mul_neg,Int.neg_neg] at h)<;>omega
theorem drop_at {α:Type} {xs:List α} {i:Nat} {x:α} (h:xs[i]?=some x):xs.drop i=x::xs.drop (i+1):=by
  obtain ⟨hl,rfl⟩:=List.getElem?_eq_some_iff.1 h
  exact List.drop_eq_getElem_cons hl
end
end Go.E
namespace Go.E
open Go.RowKit
inductive Plan where
  |fin
  |st (i:Nat) (s:Plan)
  |ef (i:Nat) (s:Plan)
  |fk (i j:Nat) (s t:Plan)
  |f3 (i j k:Nat) (s t u:Plan)
def Plan.sts:List Nat->Plan->Plan
  |[],s=>s
  |i::l,s=> .st i (Plan.sts l s)
def Plan.size:Plan->Nat
  | .fin=>0
  | .st _ s=>s.size+1
  | .ef _ s=>s.size+1
  | .fk _ _ s _=>s.size+1
  | .f3 _ _ _ s _ _=>s.size+1
def planB (ops:Array Oper) (E:List Nat):Plan->Array Bool->Bool
  | .fin,listed=>(Region.ready .any ops listed).isEmpty
  | .st i s,listed=>(Region.ready .any ops listed).contains i&&Region.free .any ops listed i&&!E.contains i&&planB ops E s (listed.setIfInBounds i true)
  | .ef i s,listed=>decide (Region.ready .any ops listed=[i])&&planB ops E s (listed.setIfInBounds i true)
  | .fk i j s t,listed=>decide (Region.ready .any ops listed=[i,j])&&decide (s.size=t.size)&&planB ops E s (listed.setIfInBounds i true)&&planB ops E t (listed.setIfInBounds j true)
  | .f3 i j k s t u,listed=>decide (Region.ready .any ops listed=[i,j,k])&&decide (s.size=t.size)&&decide (s.size=u.size)&&planB ops E s (listed.setIfInBounds i true)&&planB ops E t (listed.setIfInBounds j true)&&planB ops E u (listed.setIfInBounds k true)
section
variable {P:Program} {ops:Array Oper} {E:List Nat}
def walkP (P:Program) (n:Nat) (ops:Array Oper) (E:List Nat) (L:Facts) (N:Env->World->Prop):Plan->Array Bool->Env->World->Prop
  | .fin,_,ρ,w=>N ρ w
  | .st i s,listed,ρ,w=>∃o v,ops[i]?=some o/\dstOK n o.dst=true/\SteadyE P n ops (factOf L i) o v ρ/\walkP P n ops E L N s (listed.setIfInBounds i true) (put ρ o.dst v) w
  | .ef i s,listed,ρ,w=>∃o,ops[i]?=some o/\OpsE P n ops [o] (fun ρ' w'=>held ops E (listed.setIfInBounds i true) w' L/\walkP P n ops E L N s (listed.setIfInBounds i true) ρ' w') ρ w
  | .fk i j s t,listed,ρ,w=>(∃o,ops[i]?=some o/\OpsE P n ops [o] (fun ρ' w'=>held ops E (listed.setIfInBounds i true) w' L/\walkP P n ops E L N s (listed.setIfInBounds i true) ρ' w') ρ w)/\
      ∃o,ops[j]?=some o/\OpsE P n ops [o] (fun ρ' w'=>held ops E (listed.setIfInBounds j true) w' L/\walkP P n ops E L N t (listed.setIfInBounds j true) ρ' w') ρ w
  | .f3 i j k s t u,listed,ρ,w=>(∃o,ops[i]?=some o/\OpsE P n ops [o] (fun ρ' w'=>held ops E (listed.setIfInBounds i true) w' L/\walkP P n ops E L N s (listed.setIfInBounds i true) ρ' w') ρ w)/\(∃o,ops[j]?=some o/\OpsE P n ops [o] (fun ρ' w'=>held ops E (listed.setIfInBounds j true) w' L/\walkP P n ops E L N t (listed.setIfInBounds j true) ρ' w') ρ w)/\(∃o,ops[k]?=some o/\OpsE P n ops [o] (fun ρ' w'=>held ops E (listed.setIfInBounds k true) w' L/\walkP P n ops E L N u (listed.setIfInBounds k true) ρ' w') ρ w)
theorem eff_any {n:Nat} {L:Facts} {N:Env->World->Prop} {i f:Nat} {o:Oper} {s:Plan} {listed:Array Bool} {ρ:Env} {w:World} {a:Act} (ha:Rep n ρ a) (ho:ops[i]?=some o)
    (ih:∀ρ' w' a',Rep n ρ' a'->held ops E (listed.setIfInBounds i true) w' L->walkP P n ops E L N s (listed.setIfInBounds i true) ρ' w'->wpAnyC P ops E L (fun a' w'=>∃ρ',Rep n ρ' a'/\N ρ' w') f (listed.setIfInBounds i true) a' w')
    (hw:OpsE P n ops [o] (fun ρ' w'=>held ops E (listed.setIfInBounds i true) w' L/\walkP P n ops E L N s (listed.setIfInBounds i true) ρ' w') ρ w):
    wpOp P ops (only (fun a' w'=>∃ρ',Rep n ρ' a'/\N ρ' w')) i (wpAnyC P ops E L (fun a' w'=>∃ρ',Rep n ρ' a'/\N ρ' w') f (listed.setIfInBounds i true)) a w:=by
  have h1:=hw a ha (fun e a' w'=>e= .normal/\∃ρ',Rep n ρ' a'/\held ops E (listed.setIfInBounds i true) w' L/\walkP P n ops E L N s (listed.setIfInBounds i true) ρ' w') (fun ρ' a' w' hr hk=>⟨rfl,ρ',hr,hk⟩)
  unfold wpList at h1
  unfold wpOp
  simp only [ho]
  have fin:∀a' w',wpList P ops (fun e a' w'=>e= .normal/\∃ρ',Rep n ρ' a'/\held ops E (listed.setIfInBounds i true) w' L/\walkP P n ops E L N s (listed.setIfInBounds i true) ρ' w') [] a' w'->
      wpAnyC P ops E L (fun a' w'=>∃ρ',Rep n ρ' a'/\N ρ' w') f (listed.setIfInBounds i true) a' w':=fun a' w' hh=>by
    obtain ⟨_,ρ',hr,hc',hk⟩:=hh
    exact ih ρ' w' a' hr hc' hk
  split
  · rename_i hwant
    simp only [hwant,if_true] at h1
    rcases h1 with h1|⟨_,a0,w0,h1,_⟩
    case inr=>cases h1
    left
    unfold Oper.wp at*
    generalize (execOp a.eval o).run P w=r at*
    cases r with
    |ok nx w'=>
      cases nx<;>simp only [Oper.upon] at h1⊢
      case value u=>exact fin _ _ h1
      case skip=>exact fin _ _ h1
      case defer d=>exact fin _ _ h1
      case enter f args=>
        refine h1.mono fun e w'' he=>?_
        cases e with
        |returned u=>exact fin _ _ he
        |panicked c=>exact absurd he.1 (by simp)
        |outgrown=>obtain ⟨_,_,h,_⟩:=he;cases h
      case row row args=>exact h1.mono fun u w'' he=>fin _ _ he
    |halt x w'=>cases x<;>simp only [Oper.upon] at h1<;>first|exact h1.elim|exact absurd h1.1 (by simp)
  · rename_i hwant
    simp only [hwant] at h1
    exact fin _ _ h1
theorem walk_plan {n:Nat} {L:Facts} {N:Env->World->Prop} (hsel:Region.noSelect ops=true):∀(s:Plan) (listed:Array Bool) (ρ:Env) (w:World) (a:Act),Rep n ρ a->Closed ops listed->held ops E listed w L->
    planB ops E s listed=true->walkP P n ops E L N s listed ρ w->wpAnyC P ops E L (fun a' w'=>∃ρ',Rep n ρ' a'/\N ρ' w') s.size listed a w
  | .fin,listed,ρ,w,a,ha,_,hc,hB,h=>⟨hc,by simpa [planB] using hB,ρ,ha,h⟩
  | .st i s,listed,ρ,w,a,ha,hcl,hc,hB,h=>by
    simp only [planB,Bool.and_eq_true,Bool.not_eq_true'] at hB
    obtain ⟨o,v,ho,hd,hs,hw⟩:=h
    have hr:i∈Region.ready .any ops listed:=by simpa using hB.1.1.1
    have hh2:held ops E (listed.setIfInBounds i true) w L:=by
      have hrl:∀x,rel ops E x listed=true->rel ops E x (listed.setIfInBounds i true)=true:=fun x hx=>by
        unfold rel at*
        obtain ⟨s,hs1,h⟩:=List.any_eq_true.1 hx
        simp only [Bool.and_eq_true] at h
        exact List.any_eq_true.2 ⟨s,hs1,by simp only [Bool.and_eq_true];exact ⟨getD_set_true h.1,h.2⟩⟩
      have key:∀M:Facts,held ops E listed w M->held ops E (listed.setIfInBounds i true) w M:=by
        intro M
        induction M with
        |nil=>intro _;trivial
        |cons x M ihM=>
          obtain ⟨i',p,v⟩:=x
          intro hM
          exact ⟨hM.1.imp (hrl _) id,ihM hM.2⟩
      exact key L hc
    exact wpAnyC_first hB.1.2 ho (Region.noSelect_spec hsel) s.size listed a w hcl (Region.free_spec ho hB.1.1.2) hr (hs.at ha) (factOf_held (rel_ready hcl hr) hc) hc
      (walk_plan hsel s _ _ w _ (ha.put hd v) (hcl.set hr) hh2 hB.2 hw)
  | .ef i s,listed,ρ,w,a,ha,hcl,hc,hB,h=>by
    simp only [planB,Bool.and_eq_true,decide_eq_true_eq] at hB
    obtain ⟨o,ho,hw⟩:=h
    refine ⟨hc,fun h=>(by rw [hB.1] at h;cases h),fun j hj=>?_⟩
    have hj2:=hj
    rw [hB.1] at hj
    have hji:j=i:=by simpa using hj
    subst hji
    exact eff_any ha ho (fun ρ' w' a' hr hc' hk=>walk_plan hsel s _ ρ' w' a' hr (hcl.set hj2) hc' hB.2 hk) hw
  | .fk i j s t,listed,ρ,w,a,ha,hcl,hc,hB,h=>by
    simp only [planB,Bool.and_eq_true,decide_eq_true_eq] at hB
    obtain ⟨⟨o,ho,hw⟩,o',ho',hw'⟩:=h
    obtain ⟨⟨⟨hr,hst⟩,hB1⟩,hB2⟩:=hB
    refine ⟨hc,fun h=>(by rw [hr] at h;cases h),fun k hk=>?_⟩
    have hk2:=hk
    rw [hr] at hk
    rcases List.mem_cons.1 hk with rfl|hk
    · exact eff_any ha ho (fun ρ' w' a' hr hc' hk=>walk_plan hsel s _ ρ' w' a' hr (hcl.set hk2) hc' hB1 hk) hw
    · have hkj:k=j:=by simpa using hk
      subst hkj
      exact eff_any ha ho' (fun ρ' w' a' hr hc' hk=>hst▸walk_plan hsel t _ ρ' w' a' hr (hcl.set hk2) hc' hB2 hk) hw'
  | .f3 i j m s t u,listed,ρ,w,a,ha,hcl,hc,hB,h=>by
    simp only [planB,Bool.and_eq_true,decide_eq_true_eq] at hB
    obtain ⟨⟨o,ho,hw⟩,⟨o',ho',hw'⟩,o'',ho'',hw''⟩:=h
    obtain ⟨⟨⟨⟨⟨hr,hst⟩,hsu⟩,hB1⟩,hB2⟩,hB3⟩:=hB
    refine ⟨hc,fun h=>(by rw [hr] at h;cases h),fun k hk=>?_⟩
    have hk2:=hk
    rw [hr] at hk
    rcases List.mem_cons.1 hk with rfl|hk
    · exact eff_any ha ho (fun ρ' w' a' hr hc' hk=>walk_plan hsel s _ ρ' w' a' hr (hcl.set hk2) hc' hB1 hk) hw
    · rcases List.mem_cons.1 hk with rfl|hk
      · exact eff_any ha ho' (fun ρ' w' a' hr hc' hk=>hst▸walk_plan hsel t _ ρ' w' a' hr (hcl.set hk2) hc' hB2 hk) hw'
      · have hkj:k=m:=by simpa using hk
        subst hkj
        exact eff_any ha ho'' (fun ρ' w' a' hr hc' hk=>hsu▸walk_plan hsel u _ ρ' w' a' hr (hcl.set hk2) hc' hB3 hk) hw''
theorem drawP {n:Nat} {K:Exit->Env->World->Prop} {ρ:Env} {w:World} {id:Nat} (E:List Nat) (L:Facts) (s:Plan) (hm:P.follows .mixedOrders=true)
    (hB:(Region.noSelect ops&&decide (s.size=ops.size)&&planB ops E s (Array.replicate ops.size false))=true) (hC:held ops E (Array.replicate ops.size false) w L)
    (h:walkP P n ops E L (K .normal) s (Array.replicate ops.size false) ρ {w with drawn:=w.drawn+1}):CodeE P n (.region id ops true) K ρ w:=by
  intro a ha
  simp only [Bool.and_eq_true,decide_eq_true_eq] at hB
  have hcl:Closed ops (Array.replicate ops.size false):=fun j oj _ hl=>by rw [none_listed] at hl;cases hl
  have hC2:held ops E (Array.replicate ops.size false) {w with drawn:=w.drawn+1} L:=by
    clear hB h
    induction L with
    |nil=>trivial
    |cons x L ih=>obtain ⟨i,p,v⟩:=x;exact ⟨hC.1,ih hC.2⟩
  have h1:=walk_plan hB.1.1 s _ ρ _ a ha hcl hC2 hB.2 h
  rw [hB.1.2] at h1
  refine wp_mono (wp_region_any hm (wpAny_of_C _ _ _ _ h1)) fun e a' w' hq=>?_
  obtain ⟨rfl,ρ',hr,hk⟩:=hq
  exact ⟨ρ',hr,hk⟩
variable {n:Nat} {L:Facts} {N:Env->World->Prop} {ρ:Env} {w:World} {s t:Plan} {listed:Array Bool}
theorem qN (h:N ρ w):walkP P n ops E L N .fin listed ρ w:=h
theorem qO {i:Nat} {o:Oper} (ho:ops[i]?=some o) (h:OpsE P n ops [o] (fun ρ' w'=>held ops E (listed.setIfInBounds i true) w' L/\walkP P n ops E L N s (listed.setIfInBounds i true) ρ' w') ρ w):
    walkP P n ops E L N (.ef i s) listed ρ w:=⟨o,ho,h⟩
theorem qF {i j:Nat} (h1:walkP P n ops E L N (.ef i s) listed ρ w) (h2:walkP P n ops E L N (.ef j t) listed ρ w):walkP P n ops E L N (.fk i j s t) listed ρ w:=⟨h1,h2⟩
theorem qF3 {i j k:Nat} {u:Plan} (h1:walkP P n ops E L N (.ef i s) listed ρ w) (h2:walkP P n ops E L N (.ef j t) listed ρ w) (h3:walkP P n ops E L N (.ef k u) listed ρ w):walkP P n ops E L N (.f3 i j k s t u) listed ρ w:=⟨h1,h2,h3⟩
theorem qP {s:Plan} {listed:Array Bool} (is:List Nat) (hl:(is.all fun i=>Nat.blt i ops.size)=true) (hk:pureB P n ops (sel ops is) ρ=true)
    (h:walkP P n ops E L N s (listAll is listed) (envP P n ops (sel ops is) ρ) w):walkP P n ops E L N (Plan.sts is s) listed ρ w:=by
  induction is generalizing ρ listed with
  |nil=>exact h
  |cons i is ih=>
    simp only [List.all_cons,Bool.and_eq_true] at hl
    simp only [sel,List.map_cons,pureB,Bool.and_eq_true] at hk
    have hi:i<ops.size:=by simpa using hl.1
    refine ⟨ops.getD i default,_,by simp [Array.getD,hi],hk.1.1,steadyP hk.1.2,ih hl.2 hk.2 h⟩
theorem qFix {s:Plan} {listed:Array Bool} (d:Nat) (t b:Bool) (hb:t=b) (h:walkP P n ops E L N s listed (upd ρ d (.bool b)) w) (hd:ρ d= .bool t:=by kernel_rfl):walkP P n ops E L N s listed ρ w:=by
  rwa [upd_self (hb▸hd)] at h
theorem qU {s:Plan} {listed:Array Bool} (is:List Nat) (h:walkP P n ops E L N s (listAll is listed) (envP P n ops (sel ops is) ρ) w) (hl:(is.all fun i=>Nat.blt i ops.size)=true:=by rfl) (hk:pureB P n ops (sel ops is) ρ=true:=by kernel_rfl):walkP P n ops E L N (Plan.sts is s) listed ρ w:=qP is hl hk h
end
end Go.E
