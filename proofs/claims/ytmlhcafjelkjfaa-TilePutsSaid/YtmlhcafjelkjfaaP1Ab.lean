import Derived.Test.YtmlhcafjelkjfaaP1Short
namespace Go.E
set_option linter.unusedVariables false
abbrev nS:Value:= .slice none 0 0
theorem rB {a b:Bool} (h:a=b):Ending.returned (.bool a)= .returned (.bool b):=congrArg (fun b=>Ending.returned (.bool b)) h
theorem bq {a b:Bool} (h:a=b:=by first|rfl|(rw [Bool.eq_iff_iff];simp only [decide_eq_true_eq,beq_iff_eq,bne_iff_ne,ne_eq,Bool.not_eq_true',decide_eq_false_iff_not,true_iff,false_iff,iff_true,iff_false,Bool.false_eq_true,Bool.and_eq_true,Bool.or_eq_true,gt_iff_lt,ge_iff_le]<;>omega)|(rw [Bool.eq_iff_iff];simp [*]<;>omega)|(simp_all;done)):a=b:=h
theorem bs {a b:Bool} (h:a=b:=by rw [Bool.eq_iff_iff];simp_all):a=b:=h
theorem bm {a b:Bool} (h:a=b:=by rw [Bool.eq_iff_iff];simp only [decide_eq_true_eq,beq_iff_eq,bne_iff_ne,ne_eq,Bool.not_eq_true',decide_eq_false_iff_not,gt_iff_lt,ge_iff_le,Bool.and_eq_true,Bool.or_eq_true,Bool.not_eq_eq_eq_not,Bool.not_true,Bool.and_eq_false_imp,beq_eq_false_iff_ne]<;>omega):a=b:=h
section
variable {P:Program} {n:Nat} {ρ:Env} {W w:World} {cs:List Chunk} {ops:Array Oper} {rest:List Oper} {N:Env->World->Prop} {K:Exit->Env->World->Prop}
theorem cI {A:Prop} {b off:Nat} {c:Array Value} {E:TypeId} {f:Nat×Nat} {v:Value} (h:Sat W w cs) (i:Nat) (hi:cs[i]?=some [(b, .cells c E f)]:=by rfl) (hv:c[off]?=some v:=by rfl):A\/w.cell? ⟨b,off,none⟩=some v:= .inr (h.cell i hi hv)
theorem zS {K2:Exit->Env->World->Prop} {id:Nat} {l:List Oper} {y:Code} (h:OpsE P n l.toArray l (thenK (CodeE P n y K) K .normal) ρ w):OpsE P n ops [] (thenK (CodeE P n (.seq (.region id l.toArray false) y) K) K2 .normal) ρ w:=nT (sR h)
theorem zE {K2:Exit->Env->World->Prop} (h:K .ret ρ w):OpsE P n ops [] (thenK (CodeE P n .ret K) K2 .normal) ρ w:=nT (retE h)
theorem zR {N2:Env->World->Prop} {K2:Exit->Env->World->Prop} (h:K .ret ρ w):OpsE P n ops [] (thenK (CodeE P n .ret (thenK N2 K)) K2 .normal) ρ w:=nT (retE (thenK_r h))
theorem zB {N2:Env->World->Prop} {id:Nat} {K2:Exit->Env->World->Prop} (h:K .ret ρ w):OpsE P n ops [] (thenK (CodeE P n .ret (blockK id (thenK N2 K))) K2 .normal) ρ w:=nT (retE (blockK_r (thenK_r h)))
theorem zQ {K2:Exit->Env->World->Prop} {id:Nat} {l:List Oper} {y z:Code} (h:OpsE P n l.toArray l (thenK (CodeE P n y (thenK (CodeE P n z K) K)) (thenK (CodeE P n z K) K) .normal) ρ w):OpsE P n ops [] (thenK (CodeE P n (.seq (.seq (.region id l.toArray false) y) z) K) K2 .normal) ρ w:=nT (seqE (sR h))
theorem zC {K2:Exit->Env->World->Prop} {id:Nat} {l:List Oper} {c:Operand} {y z:Code} (h:OpsE P n l.toArray l (thenK (CodeE P n y K) K .normal) ρ w) (hc:ev ρ c= .bool true:=by kernel_rfl):OpsE P n ops [] (thenK (CodeE P n (.cond c (.seq (.region id l.toArray false) y) z) K) K2 .normal) ρ w:=nT (cTt (sR h) hc)
theorem kS {id:Nat} {l:List Oper} {y:Code} {K2:Exit->Env->World->Prop} (h:OpsE P n l.toArray l (thenK (CodeE P n y K) K .normal) ρ w):CodeE P n .skip (thenK (CodeE P n (.seq (.region id l.toArray false) y) K) K2) ρ w:=kT (sR h)
theorem rE {id:Nat} {l:List Oper} (h:OpsE P n l.toArray l (K .normal) ρ w):CodeE P n (.region id l.toArray false) K ρ w:=regionE h
theorem tN {N:Env->World->Prop} (h:N ρ w):thenK N K .normal ρ w:=h
theorem tK {N:Env->World->Prop} (h:K .ret ρ w):thenK N K .ret ρ w:=h
theorem bR {id:Nat} (h:K .ret ρ w):blockK id K .ret ρ w:=h
theorem bN {id:Nat} (h:K .normal ρ w):blockK id K .normal ρ w:=h
theorem sTl {o:Oper} (hS:Sat W w cs) (i:Nat) (l:List Value) {t:TypeId} {x y:Operand} {b k:Nat} {c:Array Value} {E:TypeId} (hsz:∀w,(sizeOf t).run P w= .ok k w)
    (h:∀w',Sat W w' (cs.set i [(b, .cells l.toArray E (0,0))])->OpsE P n ops rest N ρ w')
    (ho:o.op= .store t x y:=by rfl) (hg:o.guard=none:=by rfl) (hd:o.dst=none:=by rfl) (hi:cs[i]?=some [(b, .cells c E (0,0))]:=by rfl)
    (hx:ev ρ x= .pointer (some ⟨b,0,none⟩):=by kernel_rfl) (hy:ev ρ y= .agg l.toArray:=by kernel_rfl) (hv:(Value.agg l.toArray).cells.toList=l:=by kernel_rfl) (hk:l.length=k:=by kernel_rfl)
    (h1:l.all (·.oneCell')=true:=by kernel_rfl) (hfit:Nat.ble (0+l.length) c.size=true:=by kernel_rfl) (hc':wr c 0 l=l.toArray:=by kernel_rfl):OpsE P n ops (o::rest) N ρ w:=
  sT hS i 0 (.agg l.toArray) l l.toArray hsz h ho hg hd hi hx hy hv hk h1 hfit hc'
theorem retC {fn:Func} {R:Ending->World->Prop} (hS:Sat W w cs) (i:Nat) (l:List Value) (v:Value) {t:TypeId} {k b:Nat} {c:Array Value} {E:TypeId} {f:Nat×Nat} {r1 r2:Tmp} (hag:(isAgg t).run P w= .ok true w) (hsz:(sizeOf t).run P w= .ok k w)
    (h:R (.returned (packed [.agg l.toArray,v])) w) (hr:fn.results=#[.cell r1 t, .tmp r2]:=by rfl) (h1:ρ r1= .pointer (some ⟨b,0,none⟩):=by kernel_rfl) (hi:cs[i]?=some [(b, .cells c E f)]:=by rfl) (hk:l.length=k:=by rfl)
    (hv:(c.toList.drop 0).take l.length=l:=by rfl) (h2:ρ r2=v:=by kernel_rfl):retK P fn R .ret ρ w:=
  retN (rs:=[.cell r1 t, .tmp r2]) hr (.cons (.cell _ _ _ _ h1 (lvA hS i 0 l hag hsz hi hk hv)) (.cons (.tmp _ _ h2) .nil)) h
end
end Go.E
