import Derived.StillTail
import Derived.Lib.SliceRun
import Derived.Laws.BytesString
import Derived.Lib.ConvBytes
import Derived.Laws.AppendOwn
import Derived.Test.YtnjlbbfcngjhmaaGreatJ
namespace Go.Proofs.YtnjlbbfcngjhmaaGreat
set_option linter.unusedVariables false
set_option linter.unusedSimpArgs false
section
open Go.RowKit
def QF:Exit->Act->Wd->Prop:=λ_ _ _=>False
def wZ (ops:Array Oper) (j u:Nat):Bool:=match ops[j]? with | some o=>o.after.any (λe=>Region.binds .any e && e.on==u) | none=>false
def anc (ops:Array Oper):Nat->Nat->Nat->Bool | 0,j,u=>wZ ops j u | f+1,j,u=>wZ ops j u || (List.range ops.size).any λk=>wZ ops j k && anc ops f k u
def cOp (ops:Array Oper) (u:Nat):Bool:=match ops[u]? with | some o=>(match o.op with | .move _=>true | .assign _=>true | .binOp ..=>true | .unOp ..=>true | .extract ..=>true | _=>false) | none=>false
def xPy (ops:Array Oper) (j:Nat):Bool:=(List.range ops.size).all λu=>u==j || anc ops 10 j u || wZ ops u j || cOp ops u
def Clo (ops:Array Oper) (listed:Array Bool):Prop:=∀ j k,listed.getD j false=true->wZ ops j k=true->listed.getD k false=true
def xZw (ops:Array Oper) (listed:Array Bool):Bool:=(List.range listed.size).all λj=>!(listed.getD j false) || (match ops[j]? with | some o=>o.after.all (λe=>!Region.binds .any e || listed.getD e.on false) | none=>true)
theorem xQl {ops:Array Oper} {listed:Array Bool} (h:xZw ops listed=true):Clo ops listed:=by
 intro j k hj hw
 unfold xZw at h
 have qa:j<listed.size:=by
  rcases Dy j listed.size with h' | h'
  ·exact h'
  ·simp [Co h'] at hj
 have h1:=Ci.1 h j (List.mem_range.2 qa);rw[hj] at h1
 unfold wZ at hw
 cases ho:ops[j]? with
 | none=>rw[ho] at hw;cases hw
 | some o=>
  rw[ho] at hw h1;simp only[Bm,Ee] at h1 hw;obtain⟨e,he,hb⟩:=Array.any_eq_true'.1 hw;simp only[Ba,Cy] at hb;have h2:=(Array.all_eq_true'.1 h1) e he;rw[hb.1,hb.2] at h2
  simpa using h2
theorem xKp {ops:Array Oper} {listed:Array Bool} (hc:Clo ops listed):∀ (f j u:Nat),listed.getD j false=true->anc ops f j u=true->listed.getD u false=true
 | 0,j,u,hj,h=>hc j u hj h
 | f+1,j,u,hj,h=>by
  unfold anc at h
  rcases Bool.or_eq_true_iff.1 h with h | h
  ·exact hc j u hj h
  ·obtain⟨k,_,hk⟩:=List.any_eq_true.1 h
   rw[Ba] at hk;exact xKp hc f k u (hc j k hj hk.1) hk.2
theorem xHq {listed:Array Bool} {j k:Nat} (h:listed.getD k false=true):(listed.setIfInBounds j true).getD k false=true:=by
 rcases Dy k listed.size with h' | h'
 ·simp only[Array.getD_eq_getD_getElem?,Cc]
  split
  ·simp_all
  ·simpa using h
 ·simp [Co h'] at h
class KOk (K:Wd->Wd->Prop):Prop where
  refl:∀ w,K w w
  tr:∀ {a b c:Wd},K a b->K b c->K a c
def zB (P:Program) (ops:Array Oper) (N:Act->Wd->Prop) (K:Wd->Wd->Prop):Nat->Array Bool->Act->Wd->Prop | 0,listed,a,w=>Region.ready .any ops listed=[]/\N a w | f+1,listed,a,w=>(Region.ready .any ops listed=[]->N a w)/\∀ i∈Region.ready .any ops listed,wpOp P ops QF i (λa' w'=>(K w w'∨xPy ops i=true)/\zB P ops N K f (listed.setIfInBounds i true) a' w') a w
section
variable {P:Program} {ops:Array Oper} {N:Act->Wd->Prop}
theorem oDy {Q:Exit->Act->Wd->Prop} {i:Nat} {K K':Act->Wd->Prop} {a:Act} {w:Wd} (h:wpOp P ops QF i K a w) (hK:∀ a w,K a w->K' a w):wpOp P ops Q i K' a w:=by
 unfold wpOp at *
 split
 ·rename_i ho;simp only[ho] at h;exact hK _ _ h
 ·rename_i o ho
  simp only[ho] at h
  split
  ·rename_i hw
   simp only[hw,if_true] at h
   rcases h with h | ⟨_,_,_,h⟩
   ·refine .inl ?_
    unfold Oper.wp at *
    generalize (execOp a.eval o).run P w=r at *
    cases r with
    | ok n w'=>
     cases n<;>simp only[Oper.upon] at h ⊢ <;>
      first
       | exact hK _ _ h
       | exact Calls.mono h (λe w'' he=>by cases e<;>first | exact hK _ _ he | exact he.elim | (obtain⟨_,_,h⟩:=he;exact h.elim))
       | exact Rows.mono h (λ_ _ he=>hK _ _ he)
    | halt x w'=>cases x<;>simp only[Oper.upon] at h ⊢<;>exact h.elim
   ·exact h.elim
  ·rename_i hw;simp only[hw] at h;exact hK _ _ h
theorem xCz {K:Wd->Wd->Prop} {Q:Exit->Act->Wd->Prop} (hN:∀ a w,N a w->Q .normal a w):∀ (f:Nat) (listed:Array Bool) (a:Act) (w:Wd),zB P ops N K f listed a w->wpAny P .any ops Q f listed a w | 0,_,_,_,h=>⟨h.1,hN _ _ h.2⟩ | f+1,_,_,_,h=>⟨λh0=>hN _ _ (h.1 h0),λi hi=>oDy (h.2 i hi) (λa w h=>xCz hN f _ a w h.2)⟩
def nY (P:Program) (ops:Array Oper) (C:Wd->Prop) (o:Oper) (v:Vl) (a:Act):Prop:= (Region.wanted o (yielded ops a.tmps)=true/\∀ w,C w->(execOp a.eval o).run P w= .ok (.value v) w)∨(Region.wanted o (yielded ops a.tmps)=false/\v=undef)
theorem nY.of_same {C:Wd->Prop} {o:Oper} {v:Vl} {a a':Act} (hy:nY P ops C o v a) (he:execOp a'.eval o=execOp a.eval o) (hw:Region.wanted o (yielded ops a'.tmps)=Region.wanted o (yielded ops a.tmps)):nY P ops C o v a':=by
 unfold nY at *
 rw[he,hw];exact hy
theorem xVa {C:Wd->Prop} {j:Nat} {oi oj:Oper} {v:Vl} (hj:ops[j]?=some oj) (qa:oi.apart ops oj=true)
 (qc:∀ cs b,oi.op ≠ .select cs b) (qd:∀ cs b,oj.op ≠ .select cs b) {K:Act->Wd->Prop} {a:Act} {w:Wd}
 (hy:nY P ops C oi v a) (h:wpOp P ops QF j K (a.put oi.dst v) w) :
 wpOp P ops QF j (λa' w'=>nY P ops C oi v a'/\K (a'.put oi.dst v) w') a w:=by
 obtain⟨h1,h2,h3⟩:=Oper.apart_spec qa
 have keep:∀ (a:Act),nY P ops C oi v a->∀ u,nY P ops C oi v (a.put oj.dst u):=λa hy u=>
  hy.of_same (execOp_put oi qc a oj.dst u h3) (wanted_put oi a oj.dst u h3)
 have keepD:∀ d,nY P ops C oi v { a with defers:=d::a.defers }:=λd=>hy.of_same rfl rfl
 unfold wpOp at *
 simp only[hj] at *;rw[wanted_put oj a oi.dst v h1] at h
 split
 ·rename_i hw
  simp only[hw,if_true] at h
  rcases h with h | ⟨_,_,_,h⟩
  case inr=>exact h.elim
  refine .inl ?_
  unfold Oper.wp at *
  rw[execOp_put oj qd a oi.dst v h1] at h;generalize (execOp a.eval oj).run P w=r at *
  cases r with
  | ok n w'=>
   cases n<;>simp only[Oper.upon] at h ⊢
   case value u=>exact⟨keep a hy u,by rw[<- Act.put_comm a v u h2];exact h⟩
   case skip=>exact⟨keep a hy _,by rw[<- Act.put_comm a v undef h2];exact h⟩
   case defer d=>
    refine⟨keep _ (keepD d) _,?_⟩;rw[<- Act.put_comm _ v undef h2,<- Act.put_defers];exact h
   case enter f args=>
    refine Calls.mono h λe w'' he=>?_
    cases e with
    | returned u=>exact⟨keep a hy u,by rw[<- Act.put_comm a v u h2];exact he⟩
    | panicked c=>exact he.elim
    | outgrown=>obtain⟨_,_,he⟩:=he;exact he.elim
   case row row args=>exact Rows.mono h λu w'' he=>⟨keep a hy u,by rw[<- Act.put_comm a v u h2];exact he⟩
  | halt x w'=>
   cases x<;>simp only[Oper.upon] at h ⊢<;>exact h.elim
 ·rename_i hw
  simp only[hw] at h;exact⟨keep a hy _,by rw[<- Act.put_comm a v undef h2];exact h⟩
theorem yN {C:Wd->Prop} {i:Nat} {o:Oper} {v:Vl} {a:Act} {w:Wd} (hi:ops[i]?=some o) (hC:C w) (hy:nY P ops C o v a) {K:Act->Wd->Prop} (h:K (a.put o.dst v) w):wpOp P ops QF i K a w:=by
 unfold wpOp
 simp only[hi]
 rcases hy with ⟨hw,hv⟩ | ⟨hw,rfl⟩
 ·simp only[hw,if_true]
  refine .inl ?_
  unfold Oper.wp
  rw[hv w hC];exact h
 ·simp only[hw,Af,if_false];exact h
theorem xSa {i j:Nat} {listed:Array Bool} (hi:i∈Region.ready .any ops listed) (hj:j∈Region.ready .any ops listed):wZ ops j i=false:=by
 cases h:wZ ops j i with
 | false=>rfl
 | true=>
  unfold wZ at h
  obtain⟨_,oj,qc,qa⟩:=mem_ready.1 hj;rw[qc] at h;simp only at h;obtain⟨e,he,hb⟩:=Array.any_eq_true'.1 h;simp only[Ba,Cy] at hb;have h1:=qa e he hb.1;have h0:=(mem_ready.1 hi).1;rw[hb.2] at h1
  rcases Dy i listed.size with h' | h'
  ·simp [h'] at h0 h1;rw[h0] at h1;cases h1
  ·simp [Co h'] at h1
theorem sX {j u:Nat} {listed:Array Bool} (hj:j∈Region.ready .any ops listed) (h:wZ ops j u=true):listed.getD u false=true:=by
 unfold wZ at h
 obtain⟨_,oj,qc,qa⟩:=mem_ready.1 hj;rw[qc] at h;simp only at h;obtain⟨e,he,hb⟩:=Array.any_eq_true'.1 h;simp only[Ba,Cy] at hb;have h1:=qa e he hb.1;rw[hb.2] at h1;exact h1
theorem xWi {j:Nat} {listed:Array Bool} (hc:Clo ops listed) (hj:j∈Region.ready .any ops listed):Clo ops (listed.setIfInBounds j true):=by
 intro k u hk hw
 by_cases qa:k=j
 ·subst qa;exact xHq (sX hj hw)
 ·refine xHq (hc k u ?_ hw)
  simp only[Array.getD_eq_getD_getElem?,Cc,if_neg (Ne.symm qa)] at hk
  simpa using hk
theorem oAp {i:Nat} {listed:Array Bool} (hi:i∈Region.ready .any ops listed) (h1:listed.getD i false=true):False:=by
 have h0:=(mem_ready.1 hi).1
 rcases Dy i listed.size with h' | h'
 ·simp [h'] at h0 h1;rw[h0] at h1;cases h1
 ·simp [Co h'] at h1
theorem xVt {i j:Nat} {listed:Array Bool} (hc:Clo ops listed) (hi:i∈Region.ready .any ops listed) (hj:j∈Region.ready .any ops listed) (f:Nat):anc ops f j i=false:=by
 cases h:anc ops f j i with
 | false=>rfl
 | true=>
  refine(oAp hi ?_).elim
  cases f with
  | zero=>exact sX hj h
  | succ f=>
   unfold anc at h
   rcases Bool.or_eq_true_iff.1 h with h | h
   ·exact sX hj h
   ·obtain⟨k,_,hk⟩:=List.any_eq_true.1 h
    rw[Ba] at hk;exact xKp hc f k i (sX hj hk.1) hk.2
theorem oBy {i j:Nat} {listed:Array Bool} (hk:cOp ops i=false) (hc:Clo ops listed) (hi:i∈Region.ready .any ops listed) (hj:j∈Region.ready .any ops listed) (qa:i≠j):xPy ops j≠true:=by
 intro h
 unfold xPy at h
 have qc:i<ops.size:=by
  obtain⟨_,oi,qd,_⟩:=mem_ready.1 hi;exact(Dh.1 qd).1
 have h1:=Ci.1 h i (List.mem_range.2 qc);rw[xVt hc hi hj,xSa hj hi,hk] at h1
 simp [qa] at h1
theorem xKt {K:Wd->Wd->Prop} [kk:KOk K] {w0:Wd} {i:Nat} {oi:Oper} {v:Vl} (hk:cOp ops i=false) (hi:ops[i]?=some oi) (qe:∀ (j:Nat) (o:Oper) cs b,ops[j]?=some o->o.op ≠ .select cs b) :
 ∀ (f:Nat) (listed:Array Bool) (a:Act) (w:Wd),Clo ops listed->K w0 w->
  (∀ j oj,ops[j]?=some oj->j≠i->listed.getD j true=false->(∀ e∈oj.after,Region.binds .any e=true->e.on≠i)->oi.apart ops oj=true)->
  i∈Region.ready .any ops listed->nY P ops (λw'=>K w0 w') oi v a->
  zB P ops N K f (listed.setIfInBounds i true) (a.put oi.dst v) w->zB P ops N K (f+1) listed a w:=by
 intro f
 induction f with
 | zero=>
  intro listed a w qg hC _ hr hy H;refine⟨λh=>(by rw[h] at hr;cases hr),λj hj=>?_⟩
  by_cases qa:j=i
  ·subst qa;exact yN hi hC hy ⟨.inl (kk.refl _),H⟩
  ·have:=ready_mono hj qa
   rw[H.1] at this
   cases this
 | succ f ih=>
  intro listed a w qg hC qc hr hy H;refine⟨λh=>(by rw[h] at hr;cases hr),λj hj=>?_⟩
  by_cases qa:j=i
  ·subst qa;exact yN hi hC hy ⟨.inl (kk.refl _),H⟩
  ·have h1:=H.2 j (ready_mono hj qa)
   obtain⟨qf,oj,qh,qi⟩:=mem_ready.1 hj
   have qj:∀ e∈oj.after,Region.binds .any e=true->e.on≠i:=λe he hb qm=>by
    have h1:=qi e he hb;have h0:=(mem_ready.1 hr).1;rw[qm] at h1
    rcases Dy i listed.size with h' | h'
    ·simp [h'] at h0 h1;rw[h0] at h1;cases h1
    ·simp [Co h'] at h1
   have h2:=xVa qh (qc j oj qh qa qf qj) (λcs b=>qe i oi cs b hi) (λcs b=>qe j oj cs b qh) hy h1
   have qd:∀ k ok,ops[k]?=some ok->k≠i->(listed.setIfInBounds j true).getD k true=false->
    (∀ e∈ok.after,Region.binds .any e=true->e.on≠i)->oi.apart ops ok=true:=λk ok hk qn qk qo=>by
    refine qc k ok hk qn ?_ qo
    by_cases ql:j=k
    ·subst ql;exact qf
    ·rw[getD_set_ne true ql] at qk;exact qk
   refine wpOp_mono (λa' w' h3=>?_) h2;obtain⟨h4,h5,h6⟩:=h3;have hb:K w w':=h5.resolve_right (oBy hk qg hr hj (Ne.symm qa));refine⟨.inl hb,ih (listed.setIfInBounds j true) a' w' (xWi qg hj) (kk.tr hC hb) qd (ready_mono hr (Ne.symm qa)) h4 ?_⟩;rw[Array.setIfInBounds_comm _ _ qa];exact h6
theorem xHn {K:Wd->Wd->Prop} [kk:KOk K] {i:Nat} {oi:Oper} {v:Vl} (hi:ops[i]?=some oi) (qe:∀ (j:Nat) (o:Oper) cs b,ops[j]?=some o->o.op ≠ .select cs b) :
 ∀ (f:Nat) (listed:Array Bool) (a:Act) (w:Wd),
  (∀ j oj,ops[j]?=some oj->j≠i->listed.getD j true=false->(∀ e∈oj.after,Region.binds .any e=true->e.on≠i)->oi.apart ops oj=true)->
  i∈Region.ready .any ops listed->nY P ops (λ_=>True) oi v a->
  zB P ops N K f (listed.setIfInBounds i true) (a.put oi.dst v) w->zB P ops N K (f+1) listed a w:=by
 intro f
 induction f with
 | zero=>
  intro listed a w _ hr hy H;refine⟨λh=>(by rw[h] at hr;cases hr),λj hj=>?_⟩
  by_cases qa:j=i
  ·subst qa;exact yN hi trivial hy ⟨.inl (kk.refl _),H⟩
  ·have:=ready_mono hj qa
   rw[H.1] at this
   cases this
 | succ f ih=>
  intro listed a w qc hr hy H;refine⟨λh=>(by rw[h] at hr;cases hr),λj hj=>?_⟩
  by_cases qa:j=i
  ·subst qa;exact yN hi trivial hy ⟨.inl (kk.refl _),H⟩
  ·have h1:=H.2 j (ready_mono hj qa)
   obtain⟨qf,oj,qg,qh⟩:=mem_ready.1 hj
   have qi:∀ e∈oj.after,Region.binds .any e=true->e.on≠i:=λe he hb ql=>by
    have h1:=qh e he hb;have h0:=(mem_ready.1 hr).1;rw[ql] at h1
    rcases Dy i listed.size with h' | h'
    ·simp [h'] at h0 h1;rw[h0] at h1;cases h1
    ·simp [Co h'] at h1
   have h2:=xVa qg (qc j oj qg qa qf qi) (λcs b=>qe i oi cs b hi) (λcs b=>qe j oj cs b qg) hy h1
   have qd:∀ k ok,ops[k]?=some ok->k≠i->(listed.setIfInBounds j true).getD k true=false->
    (∀ e∈ok.after,Region.binds .any e=true->e.on≠i)->oi.apart ops ok=true:=λk ok hk qm qj qn=>by
    refine qc k ok hk qm ?_ qn
    by_cases qk:j=k
    ·subst qk;exact qf
    ·rw[getD_set_ne true qk] at qj;exact qj
   refine wpOp_mono (λa' w' h3=>?_) h2;obtain⟨h4,h5,h6⟩:=h3;refine⟨h5,ih (listed.setIfInBounds j true) a' w' qd (ready_mono hr (Ne.symm qa)) h4 ?_⟩;rw[Array.setIfInBounds_comm _ _ qa];exact h6
def wpV (P:Program) (ops:Array Oper) (C:Wd->Prop) (K:Act->Prop) (o:Oper) (a:Act):Prop:= if Region.wanted o (yielded ops a.tmps) then ∃ v,(∀ w,C w->(execOp a.eval o).run P w= .ok (.value v) w)/\K (a.put o.dst v) else K (a.put o.dst undef)
theorem b_q {K:Wd->Wd->Prop} [kk:KOk K] {f:Nat} {listed:Array Bool} {a:Act} {w:Wd} (i:Nat) {oi:Oper} (hk:cOp ops i=false) (hi:ops[i]?=some oi) (hs:Region.noSelect ops=true) (hf:Region.free .any ops listed i=true) (hr:(Region.ready .any ops listed).contains i=true) (qa:xZw ops listed=true)
 (h:wpV P ops (λw'=>K w w') (λa'=>zB P ops N K f (listed.setIfInBounds i true) a' w) oi a):zB P ops N K (f+1) listed a w:=by
 have qc:i∈Region.ready .any ops listed:=by simpa using hr
 unfold wpV at h
 by_cases hw:Region.wanted oi (yielded ops a.tmps)=true
 ·rw[if_pos hw] at h
  obtain⟨v,h1,h2⟩:=h;exact xKt (w0:=w) hk hi (Region.noSelect_spec hs) f listed a w (xQl qa) (kk.refl _) (Region.free_spec hi hf) qc (.inl ⟨hw,h1⟩) h2
 ·rw[if_neg hw] at h
  exact xKt (w0:=w) hk hi (Region.noSelect_spec hs) f listed a w (xQl qa) (kk.refl _) (Region.free_spec hi hf) qc (.inr ⟨by simpa using hw,rfl⟩) h
theorem xTt {K:Wd->Wd->Prop} [kk:KOk K] {f:Nat} {listed:Array Bool} {a:Act} {w:Wd} (i:Nat) {oi:Oper} (hi:ops[i]?=some oi) (hs:Region.noSelect ops=true) (hf:Region.free .any ops listed i=true) (hr:(Region.ready .any ops listed).contains i=true)
 (h:wpV P ops (λ_=>True) (λa'=>zB P ops N K f (listed.setIfInBounds i true) a' w) oi a):zB P ops N K (f+1) listed a w:=by
 have qa:i∈Region.ready .any ops listed:=by simpa using hr
 unfold wpV at h
 by_cases hw:Region.wanted oi (yielded ops a.tmps)=true
 ·rw[if_pos hw] at h
  obtain⟨v,h1,h2⟩:=h;exact xHn hi (Region.noSelect_spec hs) f listed a w (Region.free_spec hi hf) qa (.inl ⟨hw,h1⟩) h2
 ·rw[if_neg hw] at h
  exact xHn hi (Region.noSelect_spec hs) f listed a w (Region.free_spec hi hf) qa (.inr ⟨by simpa using hw,rfl⟩) h
theorem b_qs {K:World->World->Prop} [kk:KOk K] {f:Nat} {listed:Array Bool} {a:Act} {w:World} (i:Nat) {oi:Oper} (hi:ops[i]?=some oi) (h:wpV P ops (λw'=>K w w') (λa'=>zB P ops N K f (listed.setIfInBounds i true) a' w) oi a) (hb:(!cOp ops i && (Region.noSelect ops && (Region.free .any ops listed i && ((Region.ready .any ops listed).contains i && xZw ops listed))))=true:=by kernel_rfl):zB P ops N K (f+1) listed a w:=by
 simp only[Bool.and_eq_true,Bool.not_eq_true'] at hb;exact b_q i hb.1 hi hb.2.1 hb.2.2.1 hb.2.2.2.1 hb.2.2.2.2 h
theorem b_qz {K:World->World->Prop} [kk:KOk K] {f:Nat} {listed:Array Bool} {a:Act} {w:World} (i:Nat) {oi:Oper} (hi:ops[i]?=some oi) (h:wpV P ops (λ_=>True) (λa'=>zB P ops N K f (listed.setIfInBounds i true) a' w) oi a) (hb:(Region.noSelect ops && (Region.free .any ops listed i && (Region.ready .any ops listed).contains i))=true:=by kernel_rfl):zB P ops N K (f+1) listed a w:=by
 simp only[Bool.and_eq_true] at hb;exact xTt i hi hb.1 hb.2.1 hb.2.2 h
theorem b_e {K:Wd->Wd->Prop} {f:Nat} {listed:Array Bool} {a:Act} {w:Wd} (i:Nat) {oi:Oper} (hi:ops[i]?=some oi) (hr:Region.ready .any ops listed=[i])
 (h:wpList P ops (Exit.then (λa' w'=>(K w w'∨xPy ops i=true)/\zB P ops N K f (listed.setIfInBounds i true) a' w') QF) [oi] a w):zB P ops N K (f+1) listed a w:=by
 refine⟨λh0=>(by rw[hr] at h0;cases h0),λj hj=>?_⟩;rw[hr,Bd] at hj;subst hj
 unfold wpOp
 simp only[hi]
 unfold wpList at h
 split
 ·rename_i hw
  rw[if_pos hw] at h
  rcases h with h | h
  ·refine .inl ?_
   have h2:=Oper.wp_mono (K':=λa' w'=>(K w w'∨xPy ops j=true)/\zB P ops N K f (listed.setIfInBounds j true) a' w') (λa w h=>h) h
   unfold Oper.wp at h2 ⊢
   generalize (execOp a.eval oi).run P w=r at *
   cases r with
   | ok n w'=>
    cases n<;>simp only[Oper.upon] at h2 ⊢ <;>
     first
      | exact h2
      | exact Calls.mono h2 (λe w'' he=>by cases e<;>first | exact he | exact he.elim | (obtain⟨_,_,h⟩:=he;exact h.elim))
   | halt x w'=>cases x<;>simp only[Oper.upon] at h2 ⊢<;>exact h2.elim
  ·obtain⟨_,_,_,h⟩:=h
   exact False.elim h
 ·rename_i hw
  rw[if_neg hw] at h;exact h
theorem oFj {K:Wd->Wd->Prop} {listed:Array Bool} {a:Act} {w:Wd} (hr:Region.ready .any ops listed=[]) (h:N a w):zB P ops N K 0 listed a w:=⟨hr,h⟩
theorem b_ena {K:World->World->Prop} {listed:Array Bool} {a:Act} {w:World} (h:N a w) (hr:Region.ready .any ops listed=[]:=by kernel_rfl):zB P ops N K 0 listed a w:=⟨hr,h⟩
end
section
variable {P:Program} {ops:Array Oper} {C:Wd->Prop} {K:Act->Prop} {a:Act} {w:Wd} {n:Nat} {L:List (Nat×Vl)} {d:Nat} {ty:Ty} {pos:String} {af:Array Edge} {g:Option (Nat×Bool)}
theorem gT {op:Go.Op} {v:Vl} (F:Sk a n L) (hc:vO ops n L g d=true) (hr:∀ w,C w->(execOp a.eval ⟨some d,op,ty,pos,af,g⟩).run P w= .ok (.value v) w) (k:∀ a',Sk a' n ((d,v)::L)->K a'):wpV P ops C K ⟨some d,op,ty,pos,af,g⟩ a:=by
 unfold vO at hc
 rw[Ba] at hc
 unfold wpV
 rw[if_pos (mE F (o:=⟨some d,op,ty,pos,af,g⟩) hc.1)];exact⟨v,hr,k _ (F.put v hc.2)⟩
theorem oLk {x:Operand} {v:Value} (F:Sk a n L) (hc:vO ops n L g d=true) (e:ev L x=some v) (k:∀ a',Sk a' n ((d,v)::L)->K a'):wpV P ops C K ⟨some d,.move x,ty,pos,af,g⟩ a:=gT F hc (λw l=>yU F e) k
theorem oKu {x:Operand} {v:Value} (F:Sk a n L) (hc:vO ops n L g d=true) (e:ev L x=some v) (k:∀ a',Sk a' n ((d,v)::L)->K a'):wpV P ops C K ⟨some d,.assign x,ty,pos,af,g⟩ a:=gT F hc (λw l=>xEr F e) k
theorem oIr {x:Operand} {p:Addr} (F:Sk a n L) (hc:vO ops n L g d=true) (e:ev L x=some (.pointer (some p))) (k:∀ a',Sk a' n ((d,(.pointer (some p)))::L)->K a'):wpV P ops C K ⟨some d,.nilCheck x,ty,pos,af,g⟩ a:=gT F hc (λw l=>yY F e) k
theorem v_no {op:Go.Op} (F:Sk a n L) (hc:gno ops L g=true) (hd:Nat.blt d n=true) (k:∀ a',Sk a' n ((d,undef)::L)->K a'):wpV P ops C K ⟨some d,op,ty,pos,af,g⟩ a:=by
 unfold wpV
 rw[if_neg (by rw[uK F (o:=⟨some d,op,ty,pos,af,g⟩) hc];exact Bool.false_ne_true)];exact k _ (F.put undef hd)
theorem xJf (place:Nat->Option (Nat×Nat)):∀ (ps:List (Nat×Vl)) (cs:Array Vl),(∀ p∈ps,p.2.oneCell'=true/\place p.1=some (p.1,1)/\p.1<cs.size)->Instr.fill place cs ps=some (ps.foldl (λcs p=>cs.setIfInBounds p.1 p.2) cs)
 | [],cs,_=>rfl
 | (i,v)::r,cs,h=>by
  obtain⟨h1,h2,h3⟩:=h (i,v) (by simp)
  have hc:v.cells = #[v]:=by cases v<;>first | rfl | simp [Value.oneCell'] at h1
  unfold Instr.fill
  simp only at h2 h3;simp only[h2,hc]
  have h4:¬ (i+1 > cs.size):=by omega
  simp only[Ew,Am,Bi,Bj,ne_eq,not_true_eq_false,decide_false,Ee,Bg,h4,if_false];rw[show(#[v]:Array Vl).zipIdx.foldl (λcs (x:Vl×Nat)=>cs.setIfInBounds (i+x.2) x.1) cs=cs.setIfInBounds i v from rfl];exact xJf place r _ (λp hp=>by obtain⟨a,b,c⟩:=h p (by simp [hp]);exact⟨a,b,by simpa using c⟩)
theorem xCm (f:Operand->Vl):∀ (ps:List (Nat×Operand)),(ps.map Prod.fst).zip ((ps.map Prod.snd).map f)=ps.map (λ(i,x)=>(i,f x))
 | []=>rfl
 | p::r=>by simp only[Da,List.zip_cons_cons,xCm f r]
theorem xOx {dd:Option Tmp} {t:Ty} {fs:Array Field} {z:Vl} {places:Array (Nat×Nat)} {parts:Array (Nat×Operand)} {ps:List (Nat×Operand)} {idx:List Nat} {xs:List Operand} {vs:List Vl} {cs:Array Vl} (ht:P.underlying t=some (.struct fs)) (hz:∀ w,(zeroValue t).run P w= .ok z w)
 (qc:∀ w,(fs.mapM λf=>do pure (f.offset,<- sizeOf f.type):Sem (Array (Nat×Nat))).run P w= .ok places w) (F:Sk a n L) (hp:parts.toList=ps) (h1:ps.map Prod.fst=idx) (h2:ps.map Prod.snd=xs) (hx:evs L xs=some vs) (hone:∀ v∈vs,v.oneCell'=true) (qd:idx.all (λi=>places[i]?==some (i,1) && decide (i<z.cells.size))=true)
 (qe:(idx.zip vs).foldl (λcs p=>cs.setIfInBounds p.1 p.2) z.cells=cs) {w':Wd}:(execOp a.eval ⟨dd,.build t parts,ty,pos,af,g⟩).run P w'= .ok (.value (.agg cs)) w':=by
 have hv:=F.evs hx
 have qa:(parts.map λ(i,x)=>(i,a.eval x)).toList=idx.zip vs:=by
  rw[Array.toList_map,hp,<- h1,<- hv,<- h2];exact(xCm a.eval ps).symm
 have hf:=xJf (places[·]?) (idx.zip vs) z.cells (λp hp=>by
  obtain⟨hi,qf⟩:=List.of_mem_zip hp;have:=Ci.1 qd p.1 hi;simp only[Ba,Cy,Bg] at this
  exact⟨hone _ qf,this.1,this.2⟩)
 rw[qe] at hf
 unfold execOp
 simp only[Instr.build,Sem.run_bind,hz,Result.andThen_ok,run_underlying ht];simp only[Sem.run_bind,qc,Result.andThen_ok];rw[qa,hf]
 rfl
theorem xUd {Q:Exit->Act->Wd->Prop} {rest:List Oper} {t:Ty} {fs:Array Field} {z:Vl} {places:Array (Nat×Nat)} {parts:Array (Nat×Operand)} {ps:List (Nat×Operand)} {idx:List Nat} {xs:List Operand} {vs:List Vl} {cs:Array Vl} (ht:P.underlying t=some (.struct fs)) (hz:∀ w,(zeroValue t).run P w= .ok z w) (qa:∀ w,(fs.mapM λf=>do pure (f.offset,<- sizeOf f.type):Sem (Array (Nat×Nat))).run P w= .ok places w) (F:Sk a n L) (hc:vO ops n L g d=true) (hp:parts.toList=ps) (h1:ps.map Prod.fst=idx) (h2:ps.map Prod.snd=xs) (hx:evs L xs=some vs) (hone:∀ v∈vs,v.oneCell'=true) (qc:idx.all (λi=>places[i]?==some (i,1) && decide (i<z.cells.size))=true) (qd:(idx.zip vs).foldl (λcs p=>cs.setIfInBounds p.1 p.2) z.cells=cs) (k:∀ a',Sk a' n ((d,.agg cs)::L)->wpList P ops Q rest a' w):wpList P ops Q (⟨some d,.build t parts,ty,pos,af,g⟩::rest) a w:= zT F hc (xOx ht hz qa F hp h1 h2 hx hone qc qd) k
section
variable {rest:List Oper} {α:Type} {sz:Nat} {R:ER α} [hR:FrC sz R] {t e:Ty} {x lo hi:Operand} {v:Vl} {l r:List α} {bs:List Nat} {i j:Int}
end
end
section
variable {P:Program} {ops:Array Oper} {Q:Exit->Act->Wd->Prop} {a:Act} {w:Wd} {n:Nat} {L:List (Nat×Vl)} {rest:List Oper} {d:Nat} {ty:Ty} {pos:String} {af:Array Edge} {g:Option (Nat×Bool)}
theorem xRg {x:Operand} {t:Ty} {b o sz:Nat} {dd:Option Tmp} {cs:List Vl} {arr:Array Vl} {T:Ty} (qc:∀ w,(isAgg t).run P w= .ok true w) (qd:∀ w,(sizeOf t).run P w= .ok sz w) (F:Sk a n L) (he:ev L x=some (.pointer (some ⟨b,o,none⟩))) (h:nA w b arr T) (hl:cs.length=sz)
 (hv:∀ j,j<sz->arr[o+j]?=cs[j]?) :
 (execOp a.eval ⟨dd,.load t x,ty,pos,af,g⟩).run P w= .ok (.value (.agg cs.toArray)) w:=by
 subst hl
 unfold execOp
 simp only[F.ev he]
 have hl:=run_loadCells_list (P:=P) w ⟨b,o,none⟩ cs (λj v hj=>by
  have qe:j<cs.length:=(Ac.1 hj).1;have qa:=dW b o j
  rw[qa,h.cell,hv j qe,hj])
 simp [Instr.loadAt,Instr.sureAddr,loadVar,qc,qd,hl]
theorem xFz {x y:Operand} {t t':Ty} {dd:Option Tmp} {b:Option Addr} {m c e0:Nat} (ht:P.underlying t=some (.slice e0)) (F:Sk a n L) (e:ev L x=some (.slice b m c)) (e':ev L y=some (.slice none 0 0)) {w':Wd} : (execOp a.eval ⟨dd,.binOp .eql t x y t',ty,pos,af,g⟩).run P w'= .ok (.value (.bool b.isNone)) w':=by
 unfold execOp
 simp only[F.ev e,F.ev e'];obtain⟨k,hk⟩:∃ k,Op.maxDepth=k+1:=⟨Op.maxDepth - 1,rfl⟩
 cases b<;>simp [eqGuard,binOp,Op.equal,hk,Op.equalIn,run_underlying ht]
theorem xYm {α:Type} {sz:Nat} {R:ER α} {x y:Operand} {t t':Ty} {dd:Option Tmp} {v:Vl} {l:List α} {bs:List Nat} {wr:Wd} {e0:Nat} (ht:P.underlying t=some (.slice e0)) (F:Sk a n L) (e:ev L x=some v) (e':ev L y=some (.slice none 0 0)) (h:Rd (Sl sz R) wr v l bs) (hz:l=[]->v= .slice none 0 0) {w':Wd} : (execOp a.eval ⟨dd,.binOp .eql t x y t',ty,pos,af,g⟩).run P w'= .ok (.value (.bool l.isEmpty)) w':=by
 cases l with
 | nil=>
  rw[hz rfl] at e;exact xFz ht F e e'
 | cons y0 l=>
  obtain⟨a',c',rfl,h1,h2,h3,h4⟩:=h.r.open;obtain⟨b,o,bss,bi,rfl,_⟩:=h4 0 (by simp);exact xFz ht F e e'
theorem oBg {α:Type} {sz:Nat} {R:ER α} {x y:Operand} {t t':Ty} {v:Vl} {l:List α} {bs:List Nat} {e0:Nat} (ht:P.underlying t=some (.slice e0)) (F:Sk a n L) (hc:vO ops n L g d=true) (e:ev L x=some v) (e':ev L y=some (.slice none 0 0)) (h:Rd (Sl sz R) w v l bs) (hz:l=[]->v= .slice none 0 0) (k:∀ a',Sk a' n ((d,.bool l.isEmpty)::L)->wpList P ops Q rest a' w):wpList P ops Q (⟨some d,.binOp .eql t x y t',ty,pos,af,g⟩::rest) a w:=zT F hc (xYm ht F e e' h hz) k
end
section
variable {P:Program} {ops:Array Oper} {Q:Exit->Act->Wd->Prop} {a:Act} {w:Wd} {n:Nat} {L:List (Nat×Vl)} {rest:List Oper} {d:Nat} {ty:Ty} {pos:String} {af:Array Edge} {g:Option (Nat×Bool)}
theorem oIg {x y:Operand} {t t':Ty} {dd:Option Tmp} {p q:Bool} (ht:P.underlying t=some .bool) (F:Sk a n L) (e:ev L x=some (.bool p)) (e':ev L y=some (.bool q)) {w':Wd} : (execOp a.eval ⟨dd,.binOp .neq t x y t',ty,pos,af,g⟩).run P w'= .ok (.value (.bool (p != q))) w':=by
 unfold execOp
 simp only[F.ev e,F.ev e'];obtain⟨k,hk⟩:∃ k,Op.maxDepth=k+1:=⟨Op.maxDepth - 1,rfl⟩
 simp [eqGuard,binOp,Op.equal,hk,Op.equalIn,run_underlying ht,bne]
theorem oHh {x y:Operand} {t t':Ty} {p q:Bool} (ht:P.underlying t=some .bool) (F:Sk a n L) (hc:vO ops n L g d=true) (e:ev L x=some (.bool p)) (e':ev L y=some (.bool q)) (k:∀ a',Sk a' n ((d,.bool (p != q))::L)->wpList P ops Q rest a' w):wpList P ops Q (⟨some d,.binOp .neq t x y t',ty,pos,af,g⟩::rest) a w:=zT F hc (oIg ht F e e') k
end
section
variable {P:Program} {ops:Array Oper} {Q:Exit->Act->Wd->Prop} {N:Act->Wd->Prop} {a:Act} {w:Wd} {n:Nat} {L:List (Nat×Vl)} {rest:List Oper} {d:Nat} {ty:Ty} {pos:String} {af:Array Edge} {g:Option (Nat×Bool)}
theorem xVe {α:Type} {sz:Nat} {R:ER α} {x y:Operand} {t t':Ty} {v:Vl} {l:List α} {bs:List Nat} {e0:Nat} (ht:P.underlying t=some (.slice e0)) (F:Sk a n L) (hc:vO ops n L g d=true) (e:ev L x=some v) (e':ev L y=some (.slice none 0 0)) (h:Rd (Sl sz R) w v l bs) (k:∀ a' (b:Bool),(b=true->l=[])->Sk a' n ((d,.bool b)::L)->wpList P ops Q rest a' w):wpList P ops Q (⟨some d,.binOp .eql t x y t',ty,pos,af,g⟩::rest) a w:=by
 obtain⟨a',c',rfl,h1,h2,h3,h4⟩:=h.r.open;refine zT F hc (xFz ht F e e') (λa2 F'=>k a2 _ (λhn=>?_) F')
 cases l with
 | nil=>rfl
 | cons y0 l=>
  obtain⟨b,o,bss,bi,hb,_⟩:=h4 0 (by simp);rw[hb] at hn
  cases hn
theorem oJw {x y:Operand} {ts:Array Ty} {dd:Option Tmp} {i j:Int} (F:Sk a n L) (e:ev L x=some (.int .i64 i)) (e':ev L y=some (.int .i64 j)) {w':Wd} : (execOp a.eval ⟨dd,.call ⟨.builtin .max,#[x,y],ts⟩,ty,pos,af,g⟩).run P w'= .ok (.value (.int .i64 (if i<j then j else i))) w':=by
 rw[BigFrame.execOp_builtin,BigFrame.builtin_max];simp only[Di,Da,Ep,F.ev e,F.ev e']
 simp [Builtin.max_,Builtin.max2]
 try (split<;>rfl)
theorem oJr {x y:Operand} {ts:Array Ty} {i j:Int} (F:Sk a n L) (hc:vO ops n L g d=true) (e:ev L x=some (.int .i64 i)) (e':ev L y=some (.int .i64 j)) (k:∀ a',Sk a' n ((d,.int .i64 (if i<j then j else i))::L)->wpList P ops Q rest a' w):wpList P ops Q (⟨some d,.call ⟨.builtin .max,#[x,y],ts⟩,ty,pos,af,g⟩::rest) a w:=zT F hc (oJw F e e') k
theorem oKz {i j:Int} (hi:xL i) (hj:xL j):xL (if i<j then j else i):=by split<;>assumption
def xZa (P:Program) (ops:Array Oper) (N:Act->Wd->Prop) (K:Wd->Wd->Prop) (f:Nat) (listed:Array Bool) (a:Act) (w:Wd):List Nat->Prop | []=>True | i::r=>(∃ oi,ops[i]?=some oi/\wpList P ops (Exit.then (λa' w'=>(K w w'∨xPy ops i=true)/\zB P ops N K f (listed.setIfInBounds i true) a' w') QF) [oi] a w)/\xZa P ops N K f listed a w r
theorem xNt {K:Wd->Wd->Prop} {f:Nat} {listed:Array Bool}:∀ {l:List Nat} {j:Nat},xZa P ops N K f listed a w l->j∈l->∃ oi,ops[j]?=some oi/\wpList P ops (Exit.then (λa' w'=>(K w w'∨xPy ops j=true)/\zB P ops N K f (listed.setIfInBounds j true) a' w') QF) [oi] a w
 | i::r,j,h,hj=>by
  rcases Av.1 hj with rfl | hj
  ·exact h.1
  ·exact xNt h.2 hj
theorem oHp {K:Wd->Wd->Prop} {f:Nat} {listed:Array Bool} {a:Act} {w:Wd} (l:List Nat) (hr:Region.ready .any ops listed=l) (qa:l≠[]) (h:xZa P ops N K f listed a w l):zB P ops N K (f+1) listed a w:=by
 refine⟨λh0=>absurd (hr.symm.trans h0) qa,λj hj=>?_⟩;rw[hr] at hj;obtain⟨oi,hi,h⟩:=xNt h hj
 unfold wpOp
 simp only[hi]
 unfold wpList at h
 split
 ·rename_i hw
  rw[if_pos hw] at h
  rcases h with h | h
  ·refine .inl ?_
   have h2:=Oper.wp_mono (K':=λa' w'=>(K w w'∨xPy ops j=true)/\zB P ops N K f (listed.setIfInBounds j true) a' w') (λa w h=>h) h
   unfold Oper.wp at h2 ⊢
   generalize (execOp a.eval oi).run P w=r at *
   cases r with
   | ok n w'=>
    cases n<;>simp only[Oper.upon] at h2 ⊢ <;>
     first
      | exact h2
      | exact Calls.mono h2 (λe w'' he=>by cases e<;>first | exact he | exact he.elim | (obtain⟨_,_,h⟩:=he;exact h.elim))
   | halt x w'=>cases x<;>simp only[Oper.upon] at h2 ⊢<;>exact h2.elim
  ·obtain⟨_,_,_,h⟩:=h
   exact False.elim h
 ·rename_i hw
  rw[if_neg hw] at h;exact h
end
def nev {α:Type} (l:List α):Option Unit:=match l with | []=>none | _::_=>some ()
theorem oJe {α:Type} {l:List α} {u:Unit} {p:Prop} (h:nev l=some u) (e:l=[]):p:=by subst e;cases h
end
section
open Go.RowKit
variable {x:Operand}
def xZg (X:List Nat) (Φ:Vl->Wd->Prop) (w:Wd) (e:Ending) (w':Wd):Prop:=∃ v,e= .returned v/\B5 X w w'/\Φ v w'
section
variable {P:Program} {ops:Array Oper} {Q:Exit->Act->Wd->Prop} {a:Act} {w:Wd} {n:Nat} {L:List (Nat×Vl)} {rest:List Oper} {d:Nat} {ty:Ty} {pos:String} {af:Array Edge} {g:Option (Nat×Bool)}
theorem oAy {f:FuncId} {xs:List Operand} {at':Array Ty} {vs:List Vl} {X:List Nat} {Φ:Vl->Wd->Prop} (F:Sk a n L) (hc:vO ops n L g d=true) (hf:∀ args w,(callFunc f args).run P w= .ok (.enter f args) w) (e:evs L xs=some vs) (cl:Calls P f vs.toArray w (xZg X Φ w)) (k:∀ a' v w',B5 X w w'->Φ v w'->Sk a' n ((d,v)::L)->wpList P ops Q rest a' w') : wpList P ops Q (⟨some d,.call ⟨.value (.func f),xs.toArray,at'⟩,ty,pos,af,g⟩::rest) a w:= xZq (Φ:=λv w'=>B5 X w w'/\Φ v w') F hc hf e cl (λe w' ⟨v,he,hb,hφ⟩=>⟨v,he,hb,hφ⟩) (λa' v w' h F'=>k a' v w' h.1 h.2 F')
end
def RTl (v:Vl) (n i:Nat) (p:Vl):Prop:=∃ ad c,v= .slice ad n c/\i<=n/\n<=c/\p= .slice (if c=i then ad else ad.map (·.add i)) (n - i) (c - i)
section
variable {P:Program} {ops:Array Oper} {Q:Exit->Act->Wd->Prop} {a:Act} {w:Wd} {n:Nat} {L:List (Nat×Vl)} {rest:List Oper} {d:Nat} {ty:Ty} {pos:String} {af:Array Edge} {g:Option (Nat×Bool)}
theorem Row.val {α:Type} {sz:Nat} {R:ER α} {E B:Nat} {w:Wd} {v:Vl} {l:List α} {rb ib:List Nat} (h:Row sz R E B w v l rb ib):∃ ad c,v= .slice ad l.length c/\l.length<=c:=by
 obtain⟨xs,bss,ho,_⟩:=h.row
 rcases ho.2 with ⟨rfl,hn⟩ | ⟨g,cap,cur,rfl,_,_,h4,_⟩
 ·exact⟨none,0,by rw[hn],by omega⟩
 ·exact⟨_,cap,rfl,h4⟩
theorem oCs {α:Type} {R:ER α} {lo:Operand} {t E B:Nat} {v:Vl} {l r:List α} {rb ib:List Nat} {i:Int} (ht:P.underlying t=some (.slice E)) (qc:∀ w,(sizeOf E).run P w= .ok 1 w)
 (F:Sk a n L) (hc:vO ops n L g d=true) (hx:ev L x=some v) (qd:ev L lo=some (.int .i64 i)) (A:Row 1 R E B w v l rb ib) (hs:sl l i (l.length:Int)=some r)
 (k:∀ a' p,RTl v l.length i.toNat p->Sk a' n ((d,p)::L)->wpList P ops Q rest a' w):wpList P ops Q (⟨some d,.slice t x (some lo) none none,ty,pos,af,g⟩::rest) a w:=by
 obtain⟨h0,hij,_,rfl⟩:=xIz hs;obtain⟨i,rfl⟩:∃ m:Nat,i=m:=⟨i.toNat,by omega⟩;obtain⟨ad,c,rfl,qa⟩:=A.val;have hr:=xIv (P:=P) (ad:=ad) (len:=l.length) (cap:=c) (i:=i) (j:=l.length) ht qc (by omega) qa (some (.int .i64 (i:Int))) none (.inl rfl) (.inr ⟨rfl,rfl⟩) w;rw[Ce] at hr;refine zT F hc ?_ (λa' F'=>k a' _ ⟨ad,c,rfl,by omega,qa,rfl⟩ (by simpa using F'))
 unfold execOp
 simp [F.ev hx,F.ev qd,hr]
theorem xUf {op:Go.Op} (F:Sk a n L) (hc:gok ops L g=true) {v:Vl} {w':Wd} (hr:(execOp a.eval ⟨none,op,ty,pos,af,g⟩).run P w= .ok (.value v) w') (k:wpList P ops Q rest a w'):wpList P ops Q (⟨none,op,ty,pos,af,g⟩::rest) a w:=by
 unfold wpList
 rw[if_pos (mE F (o:=⟨none,op,ty,pos,af,g⟩) hc)];refine .inl ?_
 unfold Oper.wp
 rw[hr];exact k
theorem oAw {t E B:Nat} {v p:Vl} {l:List Int} {rb:List Nat} {i:Nat} (ht:P.underlying t=some (.slice E)) (hv:∀ w,(zeroValue E).run P w= .ok (.int .i64 0) w)
 (F:Sk a n L) (hc:gok ops L g=true) (hx:ev L x=some p) (A:Row 1 xF E B w v l rb []) (T:RTl v l.length i p)
 (k:∀ w',Row 1 xF E B w' v (l.take i++List.replicate (l.length - i) 0) rb []->B5 rb w w'->(∀ X,zW X w->Dj X rb->Dj X rb)->wpList P ops Q rest a w') :
 wpList P ops Q (⟨none,.call ⟨.builtin .clear,#[x],#[t]⟩,ty,pos,af,g⟩::rest) a w:=by
 obtain⟨ad,c,rfl,hi,hcap,rfl⟩:=T
 have qc:∀ (u:Vl) w',(Builtin.clear_ #[t] ty #[u]).run P w= .ok (.tuple #[]) w'->ev L x=some u->(execOp a.eval ⟨none,.call ⟨.builtin .clear,#[x],#[t]⟩,ty,pos,af,g⟩).run P w= .ok (.value (.tuple #[])) w':=by
  intro u w' h e;rw[BigFrame.execOp_builtin,BigFrame.builtin_clear];simp only[Di,Da,Ep,F.ev e]
  simp [h]
 by_cases qj:i=l.length
 ·subst qj
  refine xUf (w':=w) F hc (qc _ _ ?_ hx) (k w (by simpa using A) (B5.refl _ _) (λ_ _ h=>h));rw[Ed]
  split<;>cases ad<;>simp [Builtin.clear_,run_underlying ht]
 ·obtain⟨xs,bss,ho,hl,qk,he⟩:=A.row
  have hrb:=A.hrb
  rcases ho.2 with ⟨h1,h2⟩ | ⟨g2,cap,cur,h1,hg,qd,h4,h5,h6,h7⟩
  ·omega
  ·simp only[Value.slice.injEq] at h1
   obtain⟨rfl,_,rfl⟩:=h1
   have ql:c≠i:=by omega
   rw[if_neg ql] at hx
   have qf:(⟨g2,0,none⟩:Addr).add i=⟨g2,i,none⟩:=by rw[dW,Bj]
   simp only[Cr,qf] at hx;have hK:nA w g2 cur E:=qd;rw[Ce] at h6 h7;obtain⟨cur',q1,q2,q3,q4⟩:∃ cur':Array Vl,_:=wV g2 E (0,0) (List.replicate (l.length - i) (Value.int IntKind.i64 0)) i w cur qd (by simp;omega)
   have hxl:xs.length=l.length:=by have:=ho.1;omega
   refine xUf (w':=w.setCells g2 i (List.replicate (l.length - i) (Value.int IntKind.i64 0))) F hc (qc _ _ (Lib.run_clear_slice w t E ty (Value.int IntKind.i64 0) ht hv rfl rfl g2 i (l.length - i) (c - i) (by omega) (λj hj=>?_) (λj hj=>?_)) hx) (k _ ?_ ?_ (λ_ _ h=>h))
   ·rw[hK.cell,Cw (by omega)];rfl
   ·exact hK.frozen _
   ·have qa:(l.take i++List.replicate (l.length - i) (0:Int)).length=l.length:=by simp;omega
    have qe:∀ (j:Nat) (y:Int),(l.take i++List.replicate (l.length - i) (0:Int))[j]?=some y->cur'[j]?=some (Value.int IntKind.i64 y)/\xL y:=by
     intro j y hy;rw[List.getElem?_append] at hy
     split at hy
     ·rename_i hji
      rw[Bc] at hji;rw[Be,if_pos (by omega)] at hy
      have qh:j<l.length:=by omega
      have h8:=he j y [] hy (by
       have:j<bss.length:=by omega
       rw[Aa this];have h9:=Du.1 qk _ (Bn this)
       rw[h9])
      refine⟨?_,h8.2.1⟩;rw[q4 j (Or.inl (by omega))];have qg:=h8.1;simp only[Ce,Cb] at qg;rw[<- h7,Be,if_pos (by omega)] at qg
      simpa using qg
     ·rename_i hji
      rw[Bc] at hji;have qm:=Ae hy;have:=Ca qm;subst this;have qh:=(Ac.1 hy).1;simp only[Bv,Bc] at qh;refine⟨?_,by decide⟩;have qi:=q3 (j - i) (by simp;omega);rw[show i+(j - i)=j by omega] at qi;rw[qi,Dg,if_pos (by omega)]
    refine⟨⟨(l.take i++List.replicate (l.length - i) (0:Int)).map (λy=>Value.int .i64 y),List.replicate l.length [],⟨by rw[Bu,Ce],.inr ⟨g2,c,cur',by rw[qa],hg,q1,by rw[qa];exact h4,h5,by rw[q2,Ce];exact h6,?_⟩⟩,by rw[Bv,qa],by simp,λj y bi hy qn=>?_⟩,hrb,zW.nil _,Dj.nil _⟩
    ·refine Cs (λj=>?_)
     rw[Be,Ay,qa,Ce]
     split
     ·rename_i hj
      have:j<(l.take i++List.replicate (l.length - i) (0:Int)).length:=by omega
      have qo:=qe j _ (Aa this);rw[Dp,qo.1,Aa this]
      rfl
     ·rename_i hj
      rw[Cg (by omega)]
      rfl
    ·have hb:=Ca (Ae qn)
     obtain⟨h13,qp⟩:=qe j y hy;refine⟨?_,qp,hb⟩
     show(List.map (λy=>Value.int IntKind.i64 y) _)[j*1+0]?=_
     rw[Ce,Cb,Ay,hy]
     rfl
   ·have:=xMh g2 i (List.replicate (l.length - i) (Value.int IntKind.i64 0)) w
    rw[hrb];exact this
theorem oBu {α:Type} {sz:Nat} {R:ER α} [hR:FrC sz R] {hi:Operand} {t E B:Nat} {v:Vl} {l r:List α} {rb ib:List Nat} {j:Int} (ht:P.underlying t=some (.slice E)) (qh:∀ w,(sizeOf E).run P w= .ok sz w)
 (F:Sk a n L) (hc:vO ops n L g d=true) (hx:ev L x=some v) (qi:ev L hi=some (.int .i64 j)) (A:Row sz R E B w v l rb ib) (hs:sl l 0 j=some r)
 (k:∀ a' v' ib',Row sz R E B w v' r rb ib'->List.Sublist ib' ib->Sk a' n ((d,v')::L)->wpList P ops Q rest a' w):wpList P ops Q (⟨some d,.slice t x none (some hi) none,ty,pos,af,g⟩::rest) a w:=by
 obtain⟨_,h0,hjl,rfl⟩:=xIz hs;obtain⟨j,rfl⟩:∃ m:Nat,j=m:=⟨j.toNat,by omega⟩
 have qd:j<=l.length:=by omega
 simp only[Ad,show(0:Int).toNat=0 from rfl,Er] at k ⊢;obtain⟨xs,bss,ho,hl,qj,he⟩:=A.row;have hrb:=A.hrb
 have qc:∀ c∈(bss.take j).flatten,c∈ib:=λc hc=>by
  obtain⟨y,hy,qk⟩:=Bl.1 hc;rw[<- qj];exact Bl.2 ⟨y,Dt hy,qk⟩
 have qa:(l.take j).length=j:=by simp;omega
 have qe:j*sz<=l.length*sz:=Bf _ qd
 rcases ho.2 with ⟨rfl,h2⟩ | ⟨g2,cap,cur,rfl,hg,qf,h4,h5,h6,h7⟩
 ·have ql:j=0:=by omega
  subst ql;have hr:=xIv (P:=P) (ad:=none) (len:=0) (cap:=0) (i:=0) (j:=0) ht qh (Az _) (Az _) none (some (.int .i64 ((0:Nat):Int))) (.inr ⟨rfl,rfl⟩) (.inl rfl) w;refine zT (v:=.slice none 0 0) F hc ?_ (λa' F'=>k a' _ [] ?_ (List.nil_sublist _) F')
  ·unfold execOp
   simp [F.ev hx,F.ev qi] at hr ⊢
   simp [hr]
  ·have:=Row.nil sz R E B w
   rw[hrb]
   simpa [uE,Value.ownBlock] using this
 ·have hr:=xIv (P:=P) (ad:=some ⟨g2,0,none⟩) (len:=l.length) (cap:=cap) (i:=0) (j:=j) ht qh (Dc _) (by omega) none (some (.int .i64 (j:Int))) (.inr ⟨rfl,rfl⟩) (.inl rfl) w
  have hv:(if cap=0 then some (⟨g2,0,none⟩:Addr) else (some (⟨g2,0,none⟩:Addr)).map (·.add (0*sz)))=some ⟨g2,0,none⟩:=by
   split
   ·rfl
   ·rw[Nat.zero_mul,Cr,dW]
  rw[hv,Ey,Ey] at hr;refine zT (v:=.slice (some ⟨g2,0,none⟩) j cap) F hc ?_ (λa' F'=>k a' _ (bss.take j).flatten ⟨⟨xs.take (j*sz),bss.take j,⟨by rw[Bc,ho.1,qa];omega,.inr ⟨g2,cap,cur,by rw[qa],hg,qf,by rw[qa];omega,h5,h6,?_⟩⟩,by simp;omega,rfl,λq y bi hy qg=>?_⟩,?_,λc hc=>A.mem c (qc c hc),λc hc hm=>A.dj c hc (qc c hm)⟩ (by rw[<- qj];have e9:=congrArg List.flatten (Es j bss);rw[Em] at e9;rw[<- e9];exact List.sublist_append_left _ _) F')
  ·unfold execOp
   simp [F.ev hx,F.ev qi,hr]
  ·rw[qa,<- h7,List.take_take,Eu qe]
  ·rw[Be] at hy qg
   split at hy
   ·rename_i hq
    rw[if_pos hq] at qg;have h8:=he q y bi hy qg;have qm:(q+1)*sz<=j*sz:=Bf _ hq;rw[Ct] at qm;refine hR.fr _ _ _ _ y bi h8 (λ_ _=>rfl) (λm hm=>?_);rw[Be,if_pos (by omega)]
   ·cases hy
  ·rw[hrb]
   simp [uE,Value.ownBlock]
end
theorem xHj {v:Vl} (h:v.oneCell'=true):v.cells = #[v]:=by cases v<;>first | rfl | simp [Value.oneCell'] at h
def xQi (cells:Array Vl):List (Nat×List Vl)->Array Vl | []=>cells | (o,vs)::r=>xQi (vs.zipIdx.foldl (λcs x=>cs.setIfInBounds (o+x.2) x.1) cells) r
def xUa (places:Array (Nat×Nat)) (n:Nat):List Nat->List Vl->List (Nat×List Vl)->Prop | [],[],[]=>True | i::is,v::vs,(o,c)::qs=>v.cells=c.toArray/\places[i]?=some (o,c.length)/\o+c.length<=n/\xUa places n is vs qs | _,_,_=>False
theorem xNv (o:Nat):∀ (vs:List (Vl×Nat)) (cs:Array Vl),(vs.foldl (λcs x=>cs.setIfInBounds (o+x.2) x.1) cs).size=cs.size
 | [],_=>rfl
 | v::r,cs=>by rw[List.foldl_cons,xNv o r];simp
theorem oAh {places:Array (Nat×Nat)} {n:Nat}:∀ {is:List Nat} {vs:List Vl} {qs:List (Nat×List Vl)} {cs:Array Vl},cs.size=n->xUa places n is vs qs->Instr.fill (places[·]?) cs (is.zip vs)=some (xQi cs qs)
 | [],[],[],_,_,_=>rfl
 | i::is,v::vs,(o,c)::qs,cs,hn,h=>by
  obtain⟨h1,h2,h3,h4⟩:=h;rw[List.zip_cons_cons]
  unfold Instr.fill xQi
  simp only[h2,h1,Ew];rw[if_neg (by simp;omega)]
  have e:c.toArray.zipIdx.foldl (λcs (x:Vl×Nat)=>cs.setIfInBounds (o+x.2) x.1) cs=c.zipIdx.foldl (λcs x=>cs.setIfInBounds (o+x.2) x.1) cs:=by
   simp
  rw[e];exact oAh (by rw[xNv];exact hn) h4
section
variable {P:Program} {ops:Array Oper} {Q:Exit->Act->Wd->Prop} {a:Act} {w:Wd} {n:Nat} {L:List (Nat×Vl)} {rest:List Oper} {d:Nat} {ty:Ty} {pos:String} {af:Array Edge} {g:Option (Nat×Bool)}
theorem oBe {t:Ty} {fs:Array Field} {z:Vl} {places:Array (Nat×Nat)} {parts:Array (Nat×Operand)} {ps:List (Nat×Operand)} {idx:List Nat} {xs:List Operand} {vs:List Vl} {qs:List (Nat×List Vl)} {cs:Array Vl} (ht:P.underlying t=some (.struct fs)) (hz:∀ w,(zeroValue t).run P w= .ok z w)
 (qd:∀ w,(fs.mapM λf=>do pure (f.offset,<- sizeOf f.type):Sem (Array (Nat×Nat))).run P w= .ok places w) (F:Sk a n L) (hc:vO ops n L g d=true) (hp:parts.toList=ps) (h1:ps.map Prod.fst=idx) (h2:ps.map Prod.snd=xs) (hx:evs L xs=some vs)
 (hf:xUa places z.cells.size idx vs qs) (qe:xQi z.cells qs=cs) (k:∀ a',Sk a' n ((d,.agg cs)::L)->wpList P ops Q rest a' w):wpList P ops Q (⟨some d,.build t parts,ty,pos,af,g⟩::rest) a w:=by
 refine zT F hc ?_ k;have hv:=F.evs hx
 have qa:(parts.map λ(i,x)=>(i,a.eval x)).toList=idx.zip vs:=by
  rw[Array.toList_map,hp,<- h1,<- hv,<- h2];exact(xCm a.eval ps).symm
 have qc:=oAh (cs:=z.cells) rfl hf;rw[qe] at qc
 unfold execOp
 simp only[Instr.build,Sem.run_bind,hz,Result.andThen_ok,run_underlying ht];simp only[Sem.run_bind,qd,Result.andThen_ok];rw[qa,qc]
 rfl
end
section
variable {P:Program} {ops:Array Oper} {C:Wd->Prop} {K:Act->Prop} {a:Act} {w:Wd} {n:Nat} {L:List (Nat×Vl)} {d:Nat} {ty:Ty} {pos:String} {af:Array Edge} {g:Option (Nat×Bool)}
end
end
section
open Go.RowKit
variable {E:Ty}
structure Sm (N:Nat->Prop) (w w':Wd):Prop where
  blk:∀ c,N c->w'.heap[c]?=w.heap[c]?
theorem Sm.refl (N:Nat->Prop) (w:Wd):Sm N w w:=⟨λ_ _=>rfl⟩
theorem Sm.trans {N:Nat->Prop} {a b c:Wd} (h:Sm N a b) (k:Sm N b c):Sm N a c:=⟨λx hx=>(k.blk x hx).trans (h.blk x hx)⟩
theorem Sm.mono {M N:Nat->Prop} {a b:Wd} (h:Sm N a b) (hs:∀ c,M c->N c):Sm M a b:=⟨λx hx=>h.blk x (hs x hx)⟩
instance (N:Nat->Prop):KOk (Sm N):=⟨Sm.refl N,Sm.trans⟩
def All (w:Wd) (c:Nat):Prop:=c<w.heap.size
theorem Sm.all {w w':Wd} (l:Below w.heap.size w w'):Sm (All w) w w':=⟨λc hc=>l.block c hc⟩
def Bo {α:Type} (N:Nat->Prop) (w:Wd) (V:VR α) (v:Vl) (x:α):Prop:=∃ bs,Rd V w v x bs/\∀ c∈bs,N c
section
variable {α:Type} {M N:Nat->Prop} {V:VR α} {w w':Wd} {v:Vl} {x:α}
theorem Bo.to [hV:VF V] (h:Bo N w V v x) (s:Sm N w w'):Bo N w' V v x:=by
 obtain⟨bs,h1,h2⟩:=h;refine⟨bs,⟨hV.same h1.r (λb hb=>s.blk b (h2 b hb)),λb hb=>?_⟩,h2⟩;have h3:=s.blk b (h2 b hb);rw[Cw (h1.m b hb)] at h3;exact(Dh.1 h3).1
theorem Bo.mono (h:Bo M w V v x) (hs:∀ c,M c->N c):Bo N w V v x:=let ⟨bs,h1,h2⟩:=h;⟨bs,h1,λc hc=>hs c (h2 c hc)⟩
theorem Bo.all (h:Bo N w V v x):Bo (All w) w V v x:=let ⟨bs,h1,_⟩:=h;⟨bs,h1,h1.m⟩
theorem Bo.of {bs:List Nat} (h:Rd V w v x bs):Bo (All w) w V v x:=⟨bs,h,h.m⟩
end
structure As where
  N:Nat->Prop
  P:Wd->List Nat->Prop
  st:∀ {w w':Wd} {Y:List Nat},P w Y->(∀ c∈Y,w'.heap[c]?=w.heap[c]?)->(∀ c,N c->w'.heap[c]?=w.heap[c]?)->w.heap.size<=w'.heap.size->P w' Y
abbrev N0:Nat->Prop:=λ_=>False
def bx (b:Nat) (cs:List Vl) (T:Ty):As:=⟨N0,λw Y=>nA w b cs.toArray T/\b∈Y,λh h1 _ _=>⟨(h1 _ h.2).trans h.1,h.2⟩⟩
def rw(N:Nat->Prop) {α:Type} (sz:Nat) (R:ER α) [hR:FrC sz R] (E:Ty) (v:Vl) (xs:List α):As:= ⟨N,λw Y=>∃ rb ib,Row sz R E 0 w v xs rb ib/\(∀ c∈rb,c∈Y)/\∀ c∈ib,c∈Y∨N c,λh h1 h2 hs=>by
 obtain⟨rb,ib,h3,h4,h5⟩:=h
 exact⟨rb,ib,h3.keep (λc hc=>h1 c (h4 c hc)) (λc hc=>(h5 c hc).elim (h1 c) (h2 c)) hs,h4,h5⟩⟩
def ro (N:Nat->Prop) {α:Type} {V:VR α} [hV:VF V] (v:Vl) (x:α):As:= ⟨N,λw Y=>∃ bs,Rd V w v x bs/\∀ c∈bs,c∈Y∨N c,λh h1 h2 hs=>by
 obtain⟨bs,h3,h4⟩:=h
 exact⟨bs,⟨hV.same h3.r (λc hc=>(h4 c hc).elim (h1 c) (h2 c)),h3.m.le hs⟩,h4⟩⟩
def ow {α:Type} {V:VR α} [hV:VF V] (v:Vl) (x:α):As:= ⟨N0,λw Y=>∃ bs,Rd V w v x bs/\Own 0 bs w/\∀ c∈bs,c∈Y,λh h1 _ hs=>by
 obtain⟨bs,h3,h4,h5⟩:=h
 exact⟨bs,⟨hV.same h3.r (λc hc=>h1 c (h5 c hc)),h3.m.le hs⟩,h4.same (λc hc=>h1 c (h5 c hc)),h5⟩⟩
def rl {α:Type} (sz:Nat) (R:ER α) [hR:FrC sz R] (E:Ty) (v:Vl) (xs:List α):As:= ⟨N0,λw Y=>∃ rb ib,Row sz R E 0 w v xs rb ib/\Own 0 ib w/\(∀ c∈rb,c∈Y)/\∀ c∈ib,c∈Y,λh h1 _ hs=>by
 obtain⟨rb,ib,h3,h6,h4,h5⟩:=h
 exact⟨rb,ib,h3.keep (λc hc=>h1 c (h4 c hc)) (λc hc=>h1 c (h5 c hc)) hs,h6.same (λc hc=>h1 c (h5 c hc)),h4,h5⟩⟩
def pr (A B:As):As:=⟨λc=>A.N c∨B.N c,λw Y=>∃ Y1 Y2,A.P w Y1/\B.P w Y2/\Dj Y1 Y2/\(∀ c∈Y1,c∈Y)/\∀ c∈Y2,c∈Y,λh h1 h2 hs=>by
 obtain⟨Y1,Y2,h3,h4,h5,h6,h7⟩:=h
 exact⟨Y1,Y2,A.st h3 (λc hc=>h1 c (h6 c hc)) (λc hc=>h2 c (.inl hc)) hs,B.st h4 (λc hc=>h1 c (h7 c hc)) (λc hc=>h2 c (.inr hc)) hs,h5,h6,h7⟩⟩
structure Sep (X:List Nat) (N:Nat->Prop) (w0 w:Wd) (L:List As):Prop where
  fr:B5 X w0 w
  nb:∀ c,N c->c<w0.heap.size/\c ∉ X
  ex:∃ Y:Nat->List Nat,(∀ i A,L[i]?=some A->A.P w (Y i)/\(∀ c,A.N c->N c)/\∀ c∈Y i,c<w.heap.size/\(c∈X∨w0.heap.size<=c))/\∀ i j,i<L.length->j<L.length->i≠j->Dj (Y i) (Y j)
section
variable {X:List Nat} {N:Nat->Prop} {w0 w w':Wd} {L:List As} {A B:As}
theorem Sep.sm (H:Sep X N w0 w L):Sm N w0 w:=⟨λc hc=>H.fr.block c (H.nb c hc).1 (H.nb c hc).2⟩
theorem Sep.bl (H:Sep [] N w0 w L):Below w0.heap.size w0 w:=H.fr.below (Az _) (λ_ h=>nomatch h)
theorem Sep.start (h:∀ c,N c->c<w.heap.size):Sep [] N w w []:= ⟨B5.refl _ _,λc hc=>⟨h c hc,λh=>nomatch h⟩,λ_=>[],λi A h=>(by cases i<;>cases h),λi j h=>absurd h (Nat.not_lt_zero _)⟩
theorem Sep.own {i:Nat} {c:Nat} (hX:c∈X∨w0.heap.size<=c) (H:Sep X N w0 w L):¬ N c:=λhN=>by
 have h:=H.nb c hN
 rcases hX with h1 | h1
 ·exact h.2 h1
 ·omega
theorem Sep.turn (H:Sep X N w0 w L) (l:B5 [] w w'):Sep X N w0 w' L:=by
 obtain⟨Y,h1,h2⟩:=H.ex;have hb:∀ c,c<w.heap.size->w'.heap[c]?=w.heap[c]?:=λc hc=>l.block c hc (λh=>nomatch h);refine⟨H.fr.trans (l.mono (λ_ h=>nomatch h)),H.nb,Y,λi A hi=>?_,h2⟩;obtain⟨h3,h4,h5⟩:=h1 i A hi;exact⟨A.st h3 (λc hc=>hb c (h5 c hc).1) (λc hc=>hb c (At (H.nb c (h4 c hc)).1 H.fr.size)) l.size,h4,λc hc=>⟨At (h5 c hc).1 l.size,(h5 c hc).2⟩⟩
theorem Sep.go (H:Sep X N w0 w L) (l:Below w.heap.size w w'):Sep X N w0 w' L:=H.turn (B5.of_below l)
theorem Sep.drew (H:Sep X N w0 w L):Sep X N w0 w.drew L:=H.go (Below.refl _ _).drew
def fS (L:List As):List Nat->Option (List As)
 | []=>some []
 | i::r=>match L[i]?,fS L r with
  | some A,some M=>some (A::M)
  | _,_=>none
def xLx:List Nat->Bool | []=>true | i::r=>r.all (λj=>!(Nat.beq i j)) && xLx r
theorem xUx:∀ {is:List Nat} {M:List As},fS L is=some M->is.length=M.length/\∀ (k:Nat) A,M[k]?=some A->∃ i,is[k]?=some i/\L[i]?=some A
 | [],M,h=>by cases h;exact⟨rfl,λk A h=>by cases k<;>cases h⟩
 | i::r,M,h=>by
  unfold fS at h
  cases h1:L[i]? with
  | none=>simp [h1] at h
  | some A=>
   cases h2:fS L r with
   | none=>simp [h1,h2] at h
   | some M'=>
    simp only[h1,h2,Option.some.injEq] at h;subst h;obtain⟨h3,h4⟩:=xUx h2;refine⟨by simp [h3],λk B hk=>?_⟩
    cases k with
    | zero=>simp at hk;subst hk;exact⟨i,rfl,h1⟩
    | succ k=>simpa using h4 k B (by simpa using hk)
theorem xNg:∀ {is:List Nat},xLx is=true->∀ (a b i j:Nat),is[a]?=some i->is[b]?=some j->a≠b->i≠j
 | [],_,a,_,_,_,h,_,_=>by cases a<;>cases h
 | x::r,hn,a,b,i,j,ha,hb,hab=>by
  unfold xLx at hn
  rw[Ba] at hn
  have hx:∀ (k y:Nat),r[k]?=some y->x≠y:=λk y hk=>by
   have:=Ci.1 hn.1 y (Ae hk);intro e;subst e
   simp at this
  cases a with
  | zero=>
   cases b with
   | zero=>exact absurd rfl hab
   | succ b=>simp at ha;subst ha;exact hx b j (by simpa using hb)
  | succ a=>
   cases b with
   | zero=>simp at hb;subst hb;exact(hx a i (by simpa using ha)).symm
   | succ b=>exact xNg hn.2 a b i j (by simpa using ha) (by simpa using hb) (by omega)
theorem Sep.s (H:Sep X N w0 w L) (is:List Nat) {M:List As} (h:fS L is=some M) (hn:xLx is=true):Sep X N w0 w M:=by
 obtain⟨Y,h1,h2⟩:=H.ex;obtain⟨h3,h4⟩:=xUx h;refine⟨H.fr,H.nb,λk=>Y (is.getD k 0),λk A hk=>?_,λa b ha hb qa=>?_⟩
 ·obtain⟨i,hi,hA⟩:=h4 k A hk
  have e:is.getD k 0=i:=by rw[Ao,hi];rfl
  dsimp only
  rw[e];exact h1 i A hA
 ·obtain⟨i,hi,hA⟩:=h4 a _ (Aa ha)
  obtain⟨j,hj,hB⟩:=h4 b _ (Aa hb)
  have e:is.getD a 0=i:=by rw[Ao,hi];rfl
  have e':is.getD b 0=j:=by rw[Ao,hj];rfl
  dsimp only
  rw[e,e'];exact h2 i j (Ac.1 hA).1 (Ac.1 hB).1 (xNg hn a b i j hi hj qa)
theorem Sep.push (H:Sep X N w0 w L) (l:Below w.heap.size w w') {Y0:List Nat} (hP:A.P w' Y0) (hN:∀ c,A.N c->N c) (hY:∀ c∈Y0,w.heap.size<=c/\c<w'.heap.size):Sep X N w0 w' (A::L):=by
 have H':=H.go l;obtain⟨Y,h1,h2⟩:=H'.ex;obtain⟨Z,h5,h6⟩:=H.ex;refine⟨H'.fr,H'.nb,λi=>match i with | 0=>Y0 | i+1=>Z i,λi B hi=>?_,λi j hi hj qc=>?_⟩
 ·cases i with
  | zero=>
   simp at hi
   subst hi;exact⟨hP,hN,λc hc=>⟨(hY c hc).2,.inr (Cj H.fr.size (hY c hc).1)⟩⟩
  | succ i=>
   have qd:L[i]?=some B:=by simpa using hi
   obtain⟨h3,h4,h7⟩:=h5 i B qd;exact⟨B.st h3 (λc hc=>l.block c (h7 c hc).1) (λc hc=>l.block c (At (H.nb c (h4 c hc)).1 H.fr.size)) l.size,h4,λc hc=>⟨At (h7 c hc).1 l.size,(h7 c hc).2⟩⟩
 ·have old:∀ k,k<L.length->∀ c∈Z k,c<w.heap.size:=λk hk c hc=>((h5 k _ (Aa hk)).2.2 c hc).1
  cases i with
  | zero=>
   cases j with
   | zero=>exact absurd rfl qc
   | succ j=>exact λc hc qa=>by have:=(hY c hc).1;have:=old j (by simpa using hj) c qa;omega
  | succ i=>
   cases j with
   | zero=>exact λc hc qa=>by have:=(hY c qa).1;have:=old i (by simpa using hi) c hc;omega
   | succ j=>exact h6 i j (by simpa using hi) (by simpa using hj) (by omega)
theorem Sep.hd (H:Sep X N w0 w (A::L)):∃ Y0,A.P w Y0/\(∀ c,A.N c->N c)/\(∀ c∈Y0,c<w.heap.size/\¬ N c) ∧
 ∀ {w':Wd} {Z:List Nat},(∀ c∈Z,c∈Y0)->B5 Z w w'->∀ {B:As} {Y1:List Nat},B.P w' Y1->(∀ c,B.N c->N c)->(∀ c∈Y1,(c∈Y0∨w.heap.size<=c)/\c<w'.heap.size)->Sep X N w0 w' (B::L):=by
 obtain⟨Y,h1,h2⟩:=H.ex;obtain⟨h3,h4,h5⟩:=h1 0 A rfl;refine⟨Y 0,h3,h4,λc hc=>⟨(h5 c hc).1,Sep.own (i:=0) (h5 c hc).2 H⟩,λ{w' Z} hZ l {B Y1} hP hN hY=>?_⟩;have hl:B5 (Y 0) w w':=l.mono hZ;refine⟨?_,H.nb,λi=>match i with | 0=>Y1 | i+1=>Y (i+1),λi C hi=>?_,λi j hi hj qa=>?_⟩
 ·refine⟨hl.os.trans H.fr.os,hl.tape.trans H.fr.tape,hl.output.trans H.fr.output,Cj H.fr.size hl.size,λk hk hn=>?_⟩
  rw[hl.block k (At hk H.fr.size) (λhm=>by rcases(h5 k hm).2 with h | h;exact hn h;omega),H.fr.block k hk hn]
 ·cases i with
  | zero=>
   simp at hi
   subst hi;refine⟨hP,hN,λc hc=>⟨(hY c hc).2,?_⟩⟩
   rcases(hY c hc).1 with h | h
   ·exact(h5 c h).2
   ·exact .inr (Cj H.fr.size h)
  | succ i=>
   obtain⟨h6,h7,h8⟩:=h1 (i+1) C (by simpa using hi)
   have qd:i+1<(A::L).length:=by simpa using (Ac.1 hi).1
   have hd:Dj (Y (i+1)) (Y 0):=h2 (i+1) 0 qd (by simp) (by omega);refine⟨C.st h6 (λc hc=>hl.block c (h8 c hc).1 (hd c hc)) (λc hc=>?_) hl.size,h7,λc hc=>⟨At (h8 c hc).1 hl.size,(h8 c hc).2⟩⟩;refine hl.block c (At (H.nb c (h7 c hc)).1 H.fr.size) (λhm=>?_);exact Sep.own (i:=0) (h5 c hm).2 H (h7 c hc)
 ·have key:∀ k,k+1<(A::L).length->Dj Y1 (Y (k+1)):=λk hk c hc qc=>by
   rcases(hY c hc).1 with h | h
   ·exact h2 0 (k+1) (by simp) hk (by omega) c h qc
   ·have:=(h1 (k+1) _ (Aa hk)).2.2 c qc
    omega
  cases i with
  | zero=>
   cases j with
   | zero=>exact absurd rfl qa
   | succ j=>exact key j (by simpa using hj)
  | succ i=>
   cases j with
   | zero=>exact(key i (by simpa using hi)).symm
   | succ j=>exact h2 (i+1) (j+1) (by simpa using hi) (by simpa using hj) qa
theorem Sep.mg (H:Sep X N w0 w (A::B::L)):Sep X N w0 w (pr A B::L):=by
 obtain⟨Y,h1,h2⟩:=H.ex;obtain⟨h3,h4,h5⟩:=h1 0 A rfl;obtain⟨h6,h7,h8⟩:=h1 1 B rfl;refine⟨H.fr,H.nb,λi=>match i with | 0=>Y 0++Y 1 | i+1=>Y (i+2),λi C hi=>?_,λi j hi hj qa=>?_⟩
 ·cases i with
  | zero=>
   simp at hi
   subst hi;exact⟨⟨Y 0,Y 1,h3,h6,h2 0 1 (by simp) (by simp) (by omega),λc hc=>Bt _ hc,λc hc=>Bq _ hc⟩,λc hc=>hc.elim (h4 c) (h7 c),λc hc=>(Ar.1 hc).elim (h5 c) (h8 c)⟩
  | succ i=>exact h1 (i+2) C (by simpa using hi)
 ·have key:∀ k,k+2<(A::B::L).length->Dj (Y 0++Y 1) (Y (k+2)):=λk hk=>Dj.app' (h2 0 (k+2) (by simp) hk (by omega)) (h2 1 (k+2) (by simp) hk (by omega))
  cases i with
  | zero=>
   cases j with
   | zero=>exact absurd rfl qa
   | succ j=>exact key j (by simpa using hj)
  | succ i=>
   cases j with
   | zero=>exact(key i (by simpa using hi)).symm
   | succ j=>exact h2 (i+2) (j+2) (by simpa using hi) (by simpa using hj) (by omega)
theorem Sep.um (H:Sep X N w0 w (pr A B::L)):Sep X N w0 w (A::B::L):=by
 obtain⟨Y,h1,h2⟩:=H.ex;obtain⟨⟨Y1,Y2,p1,p2,dj,y1,y2⟩,h4,h5⟩:=h1 0 _ rfl;refine⟨H.fr,H.nb,λi=>match i with | 0=>Y1 | 1=>Y2 | i+2=>Y (i+1),λi C hi=>?_,λi j hi hj qa=>?_⟩
 ·match i,hi with
  | 0,hi=>
   simp at hi
   subst hi;exact⟨p1,λc hc=>h4 c (.inl hc),λc hc=>h5 c (y1 c hc)⟩
  | 1,hi=>
   simp at hi
   subst hi;exact⟨p2,λc hc=>h4 c (.inr hc),λc hc=>h5 c (y2 c hc)⟩
  | i+2,hi=>exact h1 (i+1) C (by simpa using hi)
 ·have k1:∀ k,k+2<(A::B::L).length->Dj Y1 (Y (k+1))/\Dj Y2 (Y (k+1)):=λk hk=>by
   have:=h2 0 (k+1) (by simp) (by simpa using hk) (by omega);exact⟨λc hc=>this c (y1 c hc),λc hc=>this c (y2 c hc)⟩
  match i,j,hi,hj,qa with
  | 0,0,_,_,h=>exact absurd rfl h
  | 0,1,_,_,_=>exact dj
  | 1,0,_,_,_=>exact dj.symm
  | 1,1,_,_,h=>exact absurd rfl h
  | 0,j+2,_,hj,_=>exact(k1 j hj).1
  | 1,j+2,_,hj,_=>exact(k1 j hj).2
  | i+2,0,hi,_,_=>exact(k1 i hi).1.symm
  | i+2,1,hi,_,_=>exact(k1 i hi).2.symm
  | i+2,j+2,hi,hj,h=>exact h2 (i+1) (j+1) (by simpa using hi) (by simpa using hj) (by omega)
theorem Sep.ret {M:Nat->Prop} {K:List As} (H:Sep X N w0 w L) (S:Sep [] M w w' K) (hN:∀ A∈K,∀ c,A.N c->N c):Sep X N w0 w' (K++L):=by
 obtain⟨Y,h1,h2⟩:=(H.go S.bl).ex;obtain⟨Y',qe,qf⟩:=H.ex;obtain⟨Z,h3,h4⟩:=S.ex
 have hZ:∀ (i:Nat),i<K.length->∀ c∈Z i,w.heap.size<=c/\c<w'.heap.size:=λi hi c hc=>by
  have:=(h3 i _ (Aa hi)).2.2 c hc;exact⟨this.2.resolve_left (λh=>nomatch h),this.1⟩
 refine⟨(H.go S.bl).fr,H.nb,λi=>if i<K.length then Z i else Y' (i - K.length),λi A hi=>?_,λi j hi hj qg=>?_⟩
 ·dsimp only
  by_cases hk:i<K.length
  ·rw[if_pos hk]
   rw[Bs hk] at hi;refine⟨(h3 i A hi).1,hN A (Ae hi),λc hc=>⟨(hZ i hk c hc).2,.inr (Cj H.fr.size (hZ i hk c hc).1)⟩⟩
  ·rw[if_neg hk]
   rw[Bb (by omega)] at hi;obtain⟨h5,h6,h7⟩:=qe _ A hi;have l:=S.bl;exact⟨A.st h5 (λc hc=>l.block c (h7 c hc).1) (λc hc=>l.block c (At (H.nb c (h6 c hc)).1 H.fr.size)) l.size,h6,λc hc=>⟨At (h7 c hc).1 l.size,(h7 c hc).2⟩⟩
 ·have old:∀ (k:Nat),k<L.length->∀ c∈Y' k,c<w.heap.size:=λk hk c hc=>((qe k _ (Aa hk)).2.2 c hc).1
  rw[Aq] at hi hj
  dsimp only
  by_cases qc:i<K.length
  ·by_cases qa:j<K.length
   ·rw[if_pos qc,if_pos qa];exact h4 i j qc qa qg
   ·rw[if_pos qc,if_neg qa]
    exact λc hc qd=>by have:=(hZ i qc c hc).1;have:=old _ (by omega) c qd;omega
  ·by_cases qa:j<K.length
   ·rw[if_neg qc,if_pos qa]
    exact λc hc qd=>by have:=(hZ j qa c qd).1;have:=old _ (by omega) c hc;omega
   ·rw[if_neg qc,if_neg qa];exact qf _ _ (by omega) (by omega) (by omega)
def Rdg (N:Nat->Prop) (w:Wd) (A:As):Prop:=∃ Y,A.P w Y/\(∀ c∈Y,N c)/\∀ c,A.N c->N c
theorem Sep.g (H:Sep X N w0 w L) (i:Nat) (hi:L[i]?=some A):Rdg (All w) w A:=by
 obtain⟨Y,h1,_⟩:=H.ex;obtain⟨h3,h4,h5⟩:=h1 i A hi;exact⟨Y i,h3,λc hc=>(h5 c hc).1,λc hc=>At (H.nb c (h4 c hc)).1 H.fr.size⟩
theorem Rdg.rd {M N:Nat->Prop} {α:Type} {sz:Nat} {R:ER α} [hR:FrC sz R] {v:Vl} {xs:List α} (h:Rdg N w (rw M sz R E v xs)):Bo N w (Sl sz R) v xs:=by
 obtain⟨Y,⟨rb,ib,h1,h2,h3⟩,h4,h5⟩:=h;exact⟨_,h1.rd,λc hc=>(Ar.1 hc).elim (λhc=>h4 c (h2 c hc)) (λhc=>(h3 c hc).elim (h4 c) (h5 c))⟩
theorem Rdg.rod {M N:Nat->Prop} {α:Type} {V:VR α} [hV:VF V] {v:Vl} {x:α} (h:Rdg N w (ro M (V:=V) v x)):Bo N w V v x:=by
 obtain⟨Y,⟨bs,h1,h2⟩,h4,h5⟩:=h;exact⟨bs,h1,λc hc=>(h2 c hc).elim (h4 c) (h5 c)⟩
theorem Rdg.od {N:Nat->Prop} {α:Type} {V:VR α} [hV:VF V] {v:Vl} {x:α} (h:Rdg N w (ow (V:=V) v x)):Bo N w V v x:=by
 obtain⟨Y,⟨bs,h1,_,h2⟩,h4,h5⟩:=h;exact⟨bs,h1,λc hc=>h4 c (h2 c hc)⟩
theorem Rdg.ld {N:Nat->Prop} {α:Type} {sz:Nat} {R:ER α} [hR:FrC sz R] {v:Vl} {xs:List α} (h:Rdg N w (rl sz R E v xs)):Bo N w (Sl sz R) v xs:=by
 obtain⟨Y,⟨rb,ib,h1,_,h2,h3⟩,h4,h5⟩:=h;exact⟨_,h1.rd,λc hc=>(Ar.1 hc).elim (λhc=>h4 c (h2 c hc)) (λhc=>h4 c (h3 c hc))⟩
def Bk (N:Nat->Prop) (w:Wd) (b:Nat) (cs:List Vl) (T:Ty):Prop:=nA w b cs.toArray T/\N b
theorem Rdg.bk {N:Nat->Prop} {b:Nat} {cs:List Vl} {T:Ty} (h:Rdg N w (bx b cs T)):Bk N w b cs T:=let ⟨_,h1,h2,_⟩:=h;⟨h1.1,h2 _ h1.2⟩
theorem Sep.r {M:Nat->Prop} {α:Type} {sz:Nat} {R:ER α} [hR:FrC sz R] {v:Vl} {xs:List α} (H:Sep X N w0 w L) (i:Nat) (hi:L[i]?=some (rw M sz R E v xs)):Bo (All w) w (Sl sz R) v xs:=(H.g i hi).rd
theorem Sep.ro {M:Nat->Prop} {α:Type} {V:VR α} [hV:VF V] {v:Vl} {x:α} (H:Sep X N w0 w L) (i:Nat) (hi:L[i]?=some (Go.Proofs.YtnjlbbfcngjhmaaGreat.ro M (V:=V) v x)):Bo (All w) w V v x:=(H.g i hi).rod
theorem Sep.o {α:Type} {V:VR α} [hV:VF V] {v:Vl} {x:α} (H:Sep X N w0 w L) (i:Nat) (hi:L[i]?=some (ow (V:=V) v x)):Bo (All w) w V v x:=(H.g i hi).od
theorem Sep.l {α:Type} {sz:Nat} {R:ER α} [hR:FrC sz R] {v:Vl} {xs:List α} (H:Sep X N w0 w L) (i:Nat) (hi:L[i]?=some (rl sz R E v xs)):Bo (All w) w (Sl sz R) v xs:=(H.g i hi).ld
theorem Sep.b {b:Nat} {cs:List Vl} {T:Ty} (H:Sep X N w0 w L) (i:Nat) (hi:L[i]?=some (bx b cs T)):nA w b cs.toArray T:=(H.g i hi).bk.1
theorem Sep.a {α:Type} {V:VR α} [hV:VF V] {v:Vl} {x:α} (H:Sep X N w0 w L) (h:Bo N w0 V v x):Bo (All w) w V v x:=(h.to H.sm).all
theorem Sep.u {α:Type} {V:VR α} [hV:VF V] {v:Vl} {x:α} (H:Sep X N w0 w L) (h:Bo N w0 V v x):Bo N w V v x:=h.to H.sm
theorem Sep.dn {α:Type} {V:VR α} [hV:VF V] {v:Vl} {x:α} (H:Sep X N w0 w L) (h:Bo N w V v x):Bo N w0 V v x:=h.to ⟨λc hc=>(H.sm.blk c hc).symm⟩
def Lf (M:Nat->Prop) (u:Wd) (N:Nat->Prop) (w:Wd):Prop:=∀ {α:Type} {V:VR α} [VF V] {v:Vl} {x:α},Bo M u V v x->Bo N w V v x
theorem Sep.lend {K:List As} (H:Sep X N w0 w (K++L)):∃ (X1:List Nat),Sep X1 N w w K ∧
 ∀ {w':Wd} {K':List As},Sep X1 N w w' K'->Sep X N w0 w' (K'++L):=by
 obtain⟨Y,h1,h2⟩:=H.ex
 have qf:∀ c,c∈(List.range K.length).flatMap Y↔∃ i,i<K.length/\c∈Y i:=λc=>by simp
 have hK:∀ i A,K[i]?=some A->(K++L)[i]?=some A:=λi A h=>by rw[Bs (Ac.1 h).1];exact h
 have hL:∀ (i:Nat) A,L[i]?=some A->(K++L)[K.length+i]?=some A:=λi A h=>by rw[Bb (by omega)];simpa using h
 have own:∀ i,i<K.length->∀ c∈Y i,c<w.heap.size/\(c∈X∨w0.heap.size<=c):=λi hi c hc=>(h1 i K[i] (hK i _ (Aa hi))).2.2 c hc;refine⟨(List.range K.length).flatMap Y,⟨B5.refl _ _,λc hc=>⟨At (H.nb c hc).1 H.fr.size,λhm=>?_⟩,Y,λi A hi=>?_,λi j hi hj qg=>h2 i j (by rw[Aq];omega) (by rw[Aq];omega) qg⟩,λ{w' K'} S=>?_⟩
 ·obtain⟨i,hi,qd⟩:=(qf c).1 hm
  exact Sep.own (i:=0) (own i hi c qd).2 H hc
 ·have qh:=(Ac.1 hi).1
  obtain⟨h6,h7,h8⟩:=h1 i A (hK i A hi);exact⟨h6,h7,λc hc=>⟨(h8 c hc).1,.inl ((qf c).2 ⟨i,qh,hc⟩)⟩⟩
 ·obtain⟨Z,g1,g2⟩:=S.ex
  have qe:∀ c,c∈(List.range K.length).flatMap Y->c∈X∨w0.heap.size<=c:=λc hc=>by
   obtain⟨i,hi,qd⟩:=(qf c).1 hc;exact(own i hi c qd).2
  have old:∀ k,k<L.length->∀ c∈Y (K.length+k),c<w.heap.size/\c ∉ (List.range K.length).flatMap Y:=λk hk c hc=>⟨((h1 _ _ (hL k _ (Aa hk))).2.2 c hc).1,λhm=>by
   obtain⟨i,hi,qd⟩:=(qf c).1 hm
   exact h2 i (K.length+k) (by rw[Aq];omega) (by rw[Aq];omega) (by omega) c qd hc⟩
  have hZ:∀ i,i<K'.length->∀ c∈Z i,c<w'.heap.size/\(c∈(List.range K.length).flatMap Y∨w.heap.size<=c):=λi hi c hc=>(g1 i _ (Aa hi)).2.2 c hc;refine⟨⟨S.fr.os.trans H.fr.os,S.fr.tape.trans H.fr.tape,S.fr.output.trans H.fr.output,Cj H.fr.size S.fr.size,λk hk hn=>?_⟩,H.nb,λi=>if i<K'.length then Z i else Y (K.length+(i - K'.length)),λi A hi=>?_,λi j hi hj qg=>?_⟩
  ·rw[S.fr.block k (At hk H.fr.size) (λhm=>by rcases qe k hm with h | h;exact hn h;omega),H.fr.block k hk hn]
  ·dsimp only
   by_cases hk:i<K'.length
   ·rw[if_pos hk]
    rw[Bs hk] at hi;obtain⟨g3,g4,g5⟩:=g1 i A hi;refine⟨g3,g4,λc hc=>⟨(g5 c hc).1,?_⟩⟩
    rcases(g5 c hc).2 with h | h
    ·exact qe c h
    ·exact .inr (Cj H.fr.size h)
   ·rw[if_neg hk]
    rw[Bb (by omega)] at hi;have qh:=(Ac.1 hi).1;obtain⟨h6,h7,h8⟩:=h1 _ A (hL _ A hi);exact⟨A.st h6 (λc hc=>S.fr.block c (h8 c hc).1 (old _ qh c hc).2) (λc hc=>S.sm.blk c (h7 c hc)) S.fr.size,h7,λc hc=>⟨At (h8 c hc).1 S.fr.size,(h8 c hc).2⟩⟩
  ·rw[Aq] at hi hj
   have key:∀ a b,a<K'.length->b<L.length->Dj (Z a) (Y (K.length+b)):=λa b ha hb c hc qi=>by
    have h9:=old b hb c qi
    rcases(hZ a ha c hc).2 with h | h
    ·exact h9.2 h
    ·omega
   dsimp only
   by_cases qc:i<K'.length
   ·by_cases qa:j<K'.length
    ·rw[if_pos qc,if_pos qa];exact g2 i j qc qa qg
    ·rw[if_pos qc,if_neg qa];exact key _ _ qc (by omega)
   ·by_cases qa:j<K'.length
    ·rw[if_neg qc,if_pos qa];exact(key _ _ qa (by omega)).symm
    ·rw[if_neg qc,if_neg qa];exact h2 _ _ (by rw[Aq];omega) (by rw[Aq];omega) (by omega)
end
end
section
open Go.RowKit
def sEq (a b:ByteArray):Bool:=a.toList==b.toList
section
variable {P:Program} {ops:Array Oper} {Q:Exit->Act->Wd->Prop} {a:Act} {w:Wd} {n:Nat} {L:List (Nat×Vl)} {rest:List Oper} {d:Nat} {dd:Option Tmp} {ty:Ty} {pos:String} {af:Array Edge} {g:Option (Nat×Bool)}
theorem oGq {x y:Operand} {t t':Ty} {i j:ByteArray} (F:Sk a n L) (e:ev L x=some (.string i)) (e':ev L y=some (.string j)) {w':Wd} : (execOp a.eval ⟨dd,.binOp .eql t x y t',ty,pos,af,g⟩).run P w'= .ok (.value (.bool (sEq i j))) w':=by
 unfold execOp
 simp only[F.ev e,F.ev e']
 simp [eqGuard,binOp,Op.stringOp,sEq]
theorem oHu {x y:Operand} {t t':Ty} {i j:ByteArray} (F:Sk a n L) (e:ev L x=some (.string i)) (e':ev L y=some (.string j)) {w':Wd} : (execOp a.eval ⟨dd,.binOp .neq t x y t',ty,pos,af,g⟩).run P w'= .ok (.value (.bool (!sEq i j))) w':=by
 unfold execOp
 simp only[F.ev e,F.ev e']
 simp [eqGuard,binOp,Op.stringOp,sEq]
end
end
section
open Go.RowKit
def pv (L:List (Nat×Vl)):Go.Op->Option Vl
 | .move x=>ev L x
 | .assign x=>ev L x
 | .binOp .lss _ x y _=>match ev L x,ev L y with | some (.int .i64 i),some (.int .i64 j)=>some (.bool (decide (i<j))) | _,_=>none
 | .binOp .leq _ x y _=>match ev L x,ev L y with | some (.int .i64 i),some (.int .i64 j)=>some (.bool (decide (i<=j))) | _,_=>none
 | .binOp .gtr _ x y _=>match ev L x,ev L y with | some (.int .i64 i),some (.int .i64 j)=>some (.bool (decide (j<i))) | _,_=>none
 | .binOp .geq _ x y _=>match ev L x,ev L y with | some (.int .i64 i),some (.int .i64 j)=>some (.bool (decide (j<=i))) | _,_=>none
 | .binOp .eql _ x y _=>match ev L x,ev L y with | some (.int .i64 i),some (.int .i64 j)=>some (.bool (i==j)) | some (.string i),some (.string j)=>some (.bool (sEq i j)) | _,_=>none
 | .binOp .neq _ x y _=>match ev L x,ev L y with | some (.int .i64 i),some (.int .i64 j)=>some (.bool (i != j)) | some (.string i),some (.string j)=>some (.bool (!sEq i j)) | _,_=>none
 | .nilCheck x=>match ev L x with | some (.pointer (some p))=>some (.pointer (some p)) | _=>none
 | .unOp .not _ x=>match ev L x with | some (.bool b)=>some (.bool (!b)) | _=>none
 | .pick x y z=>match ev L x with | some (.bool true)=>ev L y | some (.bool false)=>ev L z | _=>none
 | .extract x i=>match ev L x with | some (.tuple vs)=>vs[i]? | _=>none
 | _=>none
section
variable {P:Program} {ops:Array Oper} {Q Q':Exit->Act->Wd->Prop} {K:Act->Wd->Prop} {a:Act} {w:Wd} {n:Nat} {L L':List (Nat×Vl)} {l l':List Oper} {dd:Option Tmp} {ty:Ty} {pos:String} {af:Array Edge} {g:Option (Nat×Bool)}
theorem ev2 {x y:Operand} {v:Vl} {f:Int->Int->Vl} (h:(match ev L x,ev L y with | some (.int .i64 i),some (.int .i64 j)=>some (f i j) | _,_=>none)=some v):∃ i j,ev L x=some (.int .i64 i)/\ev L y=some (.int .i64 j)/\v=f i j:=by
 split at h
 ·rename_i i j h1 h2
  exact⟨i,j,h1,h2,(Option.some.inj h).symm⟩
 ·cases h
theorem oIe {op:Go.Op} {v:Vl} (F:Sk a n L) (h:pv L op=some v) {w':Wd}:(execOp a.eval ⟨dd,op,ty,pos,af,g⟩).run P w'= .ok (.value v) w':=by
 cases op with
 | move x=>exact yU F h
 | assign x=>exact xEr F h
 | binOp o t x y t'=>
  cases o with
  | lss=>obtain⟨i,j,h1,h2,rfl⟩:=ev2 (f:=λi j=>.bool (decide (i<j))) h;exact oFp F h1 h2
  | leq=>obtain⟨i,j,h1,h2,rfl⟩:=ev2 (f:=λi j=>.bool (decide (i<=j))) h;exact oJa F h1 h2
  | gtr=>obtain⟨i,j,h1,h2,rfl⟩:=ev2 (f:=λi j=>.bool (decide (j<i))) h;exact oJd F h1 h2
  | geq=>obtain⟨i,j,h1,h2,rfl⟩:=ev2 (f:=λi j=>.bool (decide (j<=i))) h;exact oIx F h1 h2
  | eql=>
   change (match ev L x,ev L y with | some (.int .i64 i),some (.int .i64 j)=>some (Value.bool (i==j)) | some (.string i),some (.string j)=>some (.bool (sEq i j)) | _,_=>none)=some v at h
   split at h
   ·rename_i h1 h2;obtain rfl:=Option.some.inj h;exact oJf F h1 h2
   ·rename_i h1 h2;obtain rfl:=Option.some.inj h;exact oGq F h1 h2
   ·cases h
  | neq=>
   change (match ev L x,ev L y with | some (.int .i64 i),some (.int .i64 j)=>some (Value.bool (i != j)) | some (.string i),some (.string j)=>some (.bool (!sEq i j)) | _,_=>none)=some v at h
   split at h
   ·rename_i h1 h2;obtain rfl:=Option.some.inj h;exact oLe F h1 h2
   ·rename_i h1 h2;obtain rfl:=Option.some.inj h;exact oHu F h1 h2
   ·cases h
  | _=>cases h
 | unOp o t x=>
  cases o with
  | not=>
   change (match ev L x with | some (.bool b)=>some (Value.bool (!b)) | _=>none)=some v at h
   split at h
   ·rename_i b h1
    obtain rfl:=Option.some.inj h;exact oFm F h1
   ·cases h
  | _=>cases h
 | nilCheck x=>
  change (match ev L x with | some (.pointer (some p))=>some (Value.pointer (some p)) | _=>none)=some v at h
  split at h
  ·rename_i p h1
   obtain rfl:=Option.some.inj h;exact yY F h1
  ·cases h
 | pick x y z=>
  change (match ev L x with | some (.bool true)=>ev L y | some (.bool false)=>ev L z | _=>none)=some v at h
  split at h
  ·rename_i h1;exact xUr F h1 h
  ·rename_i h1;exact xPg F h1 h
  ·cases h
 | extract x i=>
  change (match ev L x with | some (.tuple vs)=>vs[i]? | _=>none)=some v at h
  split at h
  ·rename_i vs h1;exact xNu F h1 h
  ·cases h
 | _=>cases h
def sJ (ops:Array Oper) (n:Nat):Nat->List (Nat×Vl)->List Oper->Option (List (Nat×Vl)×List Oper)
 | 0,L,l=>some (L,l)
 | k+1,L,l=>match l with
  | []=>none
  | ⟨some d,op,_,_,_,g⟩::l=>match vO ops n L g d with
   | true=>match pv L op with
    | some v=>sJ ops n k ((d,v)::L) l
    | none=>none
   | false=>match gno ops L g && Nat.blt d n with
    | true=>sJ ops n k ((d,undef)::L) l
    | false=>none
  | ⟨none,_,_,_,_,g⟩::l=>match gno ops L g with
   | true=>sJ ops n k L l
   | false=>none
theorem xWm:∀ (k:Nat) {a:Act} {L:List (Nat×Vl)} {l:List Oper} (F:Sk a n L) (h:sJ ops n k L l=some (L',l')) (c:∀ a',Sk a' n L'->wpList P ops Q l' a' w),wpList P ops Q l a w
 | 0,a,L,l,F,h,c=>by
  obtain⟨rfl,rfl⟩:=Prod.mk.inj (Option.some.inj h);exact c a F
 | k+1,a,L,[],F,h,c=>by cases h
 | k+1,a,L,⟨some d,op,ty,pos,af,g⟩::l,F,h,c=>by
  change (match vO ops n L g d with | true=>(match pv L op with | some v=>sJ ops n k ((d,v)::L) l | none=>none) | false=>(match gno ops L g && Nat.blt d n with | true=>sJ ops n k ((d,undef)::L) l | false=>none))=_ at h
  split at h
  ·rename_i h1
   split at h
   ·rename_i v h2
    exact zT F h1 (oIe F h2) (λa F=>xWm k F h c)
   ·cases h
  ·split at h
   ·rename_i h2
    rw[Ba] at h2;exact o_no F h2.1 h2.2 (λa F=>xWm k F h c)
   ·cases h
 | k+1,a,L,⟨none,op,ty,pos,af,g⟩::l,F,h,c=>by
  change (match gno ops L g with | true=>sJ ops n k L l | false=>none)=_ at h
  split at h
  ·rename_i h1
   exact oKj F h1 (xWm k F h c)
  ·cases h
theorem x_E (h:K a w):wpList P ops (Exit.then K Q) [] a w:=h
theorem x_R {id:Nat} {y:Code} (h:wpList P l.toArray (Exit.then (y.wp P Q) Q) l a w):(Code.seq (.region id l.toArray false) y).wp P Q a w:=kR (bX h)
theorem x_ER {id:Nat} {y:Code} (h:wpList P l.toArray (Exit.then (y.wp P Q) Q) l a w):wpList P ops (Exit.then ((Code.seq (.region id l.toArray false) y).wp P Q) Q') [] a w:=x_R h
theorem Sk.su {M:List (Nat×Vl)} (F:Sk a n L) (h:Go.Proofs.YtnjlbbfcngjhmaaGreat.sub L M:=by repeat (first | exact sn | refine sc rfl ?_)):Sk a n M:=F.sub h
end
end
section
open Go.RowKit
def RP {α:Type} (sz:Nat) (R:ER α):ER α:=λw f x bs=>∃ p,f 0=some p/\Pt sz R w p x bs
instance {α:Type} {sz:Nat} {R:ER α} [h:FrC sz R]:FrC 1 (RP sz R):=⟨λw w' f g x bs ⟨p,h0,hp⟩ hs hg=>⟨p,(hg 0 (by omega)).trans h0,VF.same hp hs⟩,λw f x bs h j hj=>by
 obtain rfl:j=0:=by omega
 obtain⟨p,h0,b,o,bi,rfl,_⟩:=h
 exact⟨_,h0,rfl⟩⟩
structure B6 where
  template:A6
  jobs:List A7
  clerks:Int
def vP:ER B6:=λw f x bs=>∃ v1 v2:Vl,∃ b1 b2:List Nat,f 0=some (.int .i64 x.template.size)/\xL x.template.size/\f 1=some v1/\Sl 2 oQ w v1 x.template.rels b1/\f 2=some v2/\Sl 2 xH w v2 x.jobs b2/\f 3=some (.int .i64 x.clerks)/\xL x.clerks/\bs=b1++b2
theorem vP.f0 {w:Wd} {y:B6}:∀ f bi,vP w f y bi->∃ bj,xB w (λj=>f (0+j)) y.template bj/\∀ c∈bj,c∈bi:=λf bi h=>by
 obtain⟨v1,v2,b1,b2,h0,k0,h1,k1,h2,k2,h3,k3,qa⟩:=h;exact⟨b1,⟨v1,b1,by simpa using h0,k0,by simpa using h1,k1,rfl⟩,λc hc=>by rw[qa];simp [hc]⟩
theorem vP.f1 {w:Wd} {y:B6}:∀ f bi,vP w f y bi->∃ bj,(kP 2 xH) w (λj=>f (2+j)) y.jobs bj/\∀ c∈bj,c∈bi:=λf bi h=>by
 obtain⟨v1,v2,b1,b2,h0,k0,h1,k1,h2,k2,h3,k3,qa⟩:=h;exact⟨b2,⟨v2,by simpa using h2,k2⟩,λc hc=>by rw[qa];simp [hc]⟩
theorem vP.f2 {w:Wd} {y:B6}:∀ f bi,vP w f y bi->∃ bj,xF w (λj=>f (3+j)) y.clerks bj/\∀ c∈bj,c∈bi:=λf bi h=>by
 obtain⟨v1,v2,b1,b2,h0,k0,h1,k1,h2,k2,h3,k3,hbs⟩:=h;exact⟨[],⟨by simpa using h3,k3,rfl⟩,λc hc=>nomatch hc⟩
theorem vP.rd {w:Wd} {v:Vl} {x:B6} {bs:List Nat} (h:Rd (qS 4 vP) w v x bs):∃ v1 v2:Vl,∃ b1 b2:List Nat,v= .agg #[.int .i64 x.template.size,v1,v2,.int .i64 x.clerks]/\xL x.template.size/\Rd (Sl 2 oQ) w v1 x.template.rels b1/\Rd (Sl 2 xH) w v2 x.jobs b2/\xL x.clerks/\bs=b1++b2:=by
 obtain⟨⟨cs,hl,rfl,v1,v2,b1,b2,h0,k0,h1,k1,h2,k2,h3,k3,qa⟩,hm⟩:=h
 match cs,hl with
 | [c0,c1,c2,c3],_=>
  obtain rfl:=Option.some.inj h0;obtain rfl:=Option.some.inj h1;obtain rfl:=Option.some.inj h2;obtain rfl:=Option.some.inj h3;exact⟨_,_,_,_,rfl,k0,⟨k1,λc hc=>hm c (by rw[qa];simp [hc])⟩,⟨k2,λc hc=>hm c (by rw[qa];simp [hc])⟩,k3,qa⟩
theorem vP.mk2 {w:Wd} {f0:Int} {f1:List Rel} {f2:List A7} {f3:Int} {v1:Vl} {b1:List Nat} {v2:Vl} {b2:List Nat} (h0:xL f0) (h1:Rd (Sl 2 oQ) w v1 f1 b1) (h2:Rd (Sl 2 xH) w v2 f2 b2) (h3:xL f3):Rd (qS 4 vP) w (.agg #[.int .i64 f0,v1,v2,.int .i64 f3]) (B6.mk (A6.mk f0 f1) f2 f3) (b1++b2):= ⟨⟨[.int .i64 f0,v1,v2,.int .i64 f3],rfl,rfl,_,_,_,_,rfl,h0,rfl,h1.r,rfl,h2.r,rfl,h3,rfl⟩,(h1.m).append h2.m⟩
theorem vP.blk {w:Wd} {T:Ty} {b:Nat} {f0:Int} {f1:List Rel} {f2:List A7} {f3:Int} {v1:Vl} {b1:List Nat} {v2:Vl} {b2:List Nat} (K:nA w b #[.int .i64 f0,v1,v2,.int .i64 f3] T) (h0:xL f0) (h1:Rd (Sl 2 oQ) w v1 f1 b1) (h2:Rd (Sl 2 xH) w v2 f2 b2) (h3:xL f3):Rd (Pt 4 vP) w (.pointer (some ⟨b,0,none⟩)) (B6.mk (A6.mk f0 f1) f2 f3) (b::(b1++b2)):=by
 have hm:zW (b1++b2) w:=(h1.m).append h2.m;refine⟨⟨b,0,_,rfl,rfl,_,_,_,_,(K.cell (0+0)).trans rfl,h0,(K.cell (0+1)).trans rfl,h1.r,(K.cell (0+2)).trans rfl,h2.r,(K.cell (0+3)).trans rfl,h3,rfl⟩,λc hc=>?_⟩
 rcases Av.1 hc with rfl | hc
 ·exact K.lt
 ·exact hm c hc
structure B7 where
  size:Int
  arity:Int
  has:List Bool
def kQ:ER B7:=λw f x bs=>∃ v2:Vl,∃ b2:List Nat,f 0=some (.int .i64 x.size)/\xL x.size/\f 1=some (.int .i64 x.arity)/\xL x.arity/\f 2=some v2/\Sl 1 aC w v2 x.has b2/\bs=b2
theorem kQ.fr:Fr 3 kQ:=by
 intro w w' f g x bs h hs hg;obtain⟨v2,b2,h0,k0,h1,k1,h2,k2,rfl⟩:=h;exact⟨v2,_,(hg 0 (by omega)).trans h0,k0,(hg 1 (by omega)).trans h1,k1,(hg 2 (by omega)).trans h2,k2.same (FrC.fr (sz:=1) (R:=aC)) (λc hc=>hs c (by simp [hc])),rfl⟩
instance:FrC 3 kQ:=⟨kQ.fr,λw f x bs h=>by
 obtain⟨v2,b2,h0,k0,h1,k1,h2,k2,hbs⟩:=h
 exact(jO (jO (jO xEb h0 rfl) h1 rfl) h2 k2.one)⟩
theorem kQ.f2 {w:Wd} {y:B7}:∀ f bi,kQ w f y bi->∃ bj,(kP 1 aC) w (λj=>f (2+j)) y.has bj/\∀ c∈bj,c∈bi:=λf bi h=>by
 obtain⟨v2,b2,h0,k0,h1,k1,h2,k2,qa⟩:=h;exact⟨b2,⟨v2,by simpa using h2,k2⟩,λc hc=>by rw[qa];simp [hc]⟩
theorem kQ.blk {w:Wd} {T:Ty} {b:Nat} {f0:Int} {f1:Int} {f2:List Bool} {v2:Vl} {b2:List Nat} (K:nA w b #[.int .i64 f0,.int .i64 f1,v2] T) (h0:xL f0) (h1:xL f1) (h2:Rd (Sl 1 aC) w v2 f2 b2):Rd (Pt 3 kQ) w (.pointer (some ⟨b,0,none⟩)) (B7.mk f0 f1 f2) (b::(b2)):=by
 have hm:zW (b2) w:=h2.m;refine⟨⟨b,0,_,rfl,rfl,_,_,(K.cell (0+0)).trans rfl,h0,(K.cell (0+1)).trans rfl,h1,(K.cell (0+2)).trans rfl,h2.r,rfl⟩,λc hc=>?_⟩
 rcases Av.1 hc with rfl | hc
 ·exact K.lt
 ·exact hm c hc
structure B1 where
  prime:Int
  unknowns:Int
  list:List A8
def oR:ER B1:=λw f x bs=>∃ v2:Vl,∃ b2:List Nat,f 0=some (.int .i64 x.prime)/\xL x.prime/\f 1=some (.int .i64 x.unknowns)/\xL x.unknowns/\f 2=some v2/\Sl 2 xJ w v2 x.list b2/\bs=b2
theorem oR.fr:Fr 3 oR:=by
 intro w w' f g x bs h hs hg;obtain⟨v2,b2,h0,k0,h1,k1,h2,k2,rfl⟩:=h;exact⟨v2,_,(hg 0 (by omega)).trans h0,k0,(hg 1 (by omega)).trans h1,k1,(hg 2 (by omega)).trans h2,k2.same xJ.fr (λc hc=>hs c (by simp [hc])),rfl⟩
instance:FrC 3 oR:=⟨oR.fr,λw f x bs h=>by
 obtain⟨v2,b2,h0,k0,h1,k1,h2,k2,hbs⟩:=h
 exact(jO (jO (jO xEb h0 rfl) h1 rfl) h2 k2.one)⟩
theorem oR.f0 {w:Wd} {y:B1}:∀ f bi,oR w f y bi->∃ bj,xF w (λj=>f (0+j)) y.prime bj/\∀ c∈bj,c∈bi:=λf bi h=>by
 obtain⟨v2,b2,h0,k0,h1,k1,h2,k2,hbs⟩:=h;exact⟨[],⟨by simpa using h0,k0,rfl⟩,λc hc=>nomatch hc⟩
theorem oR.f1 {w:Wd} {y:B1}:∀ f bi,oR w f y bi->∃ bj,xF w (λj=>f (1+j)) y.unknowns bj/\∀ c∈bj,c∈bi:=λf bi h=>by
 obtain⟨v2,b2,h0,k0,h1,k1,h2,k2,hbs⟩:=h;exact⟨[],⟨by simpa using h1,k1,rfl⟩,λc hc=>nomatch hc⟩
theorem oR.f2 {w:Wd} {y:B1}:∀ f bi,oR w f y bi->∃ bj,(kP 2 xJ) w (λj=>f (2+j)) y.list bj/\∀ c∈bj,c∈bi:=λf bi h=>by
 obtain⟨v2,b2,h0,k0,h1,k1,h2,k2,qa⟩:=h;exact⟨b2,⟨v2,by simpa using h2,k2⟩,λc hc=>by rw[qa];simp [hc]⟩
theorem oR.rd {w:Wd} {v:Vl} {x:B1} {bs:List Nat} (h:Rd (qS 3 oR) w v x bs):∃ v2:Vl,∃ b2:List Nat,v= .agg #[.int .i64 x.prime,.int .i64 x.unknowns,v2]/\xL x.prime/\xL x.unknowns/\Rd (Sl 2 xJ) w v2 x.list b2/\bs=b2:=by
 obtain⟨⟨cs,hl,rfl,v2,b2,h0,k0,h1,k1,h2,k2,qa⟩,hm⟩:=h
 match cs,hl with
 | [c0,c1,c2],_=>
  obtain rfl:=Option.some.inj h0;obtain rfl:=Option.some.inj h1;obtain rfl:=Option.some.inj h2;exact⟨_,_,rfl,k0,k1,⟨k2,λc hc=>hm c (by rw[qa];simp [hc])⟩,qa⟩
theorem oR.mk2 {w:Wd} {f0:Int} {f1:Int} {f2:List A8} {v2:Vl} {b2:List Nat} (h0:xL f0) (h1:xL f1) (h2:Rd (Sl 2 xJ) w v2 f2 b2):Rd (qS 3 oR) w (.agg #[.int .i64 f0,.int .i64 f1,v2]) (B1.mk f0 f1 f2) (b2):= ⟨⟨[.int .i64 f0,.int .i64 f1,v2],rfl,rfl,_,_,rfl,h0,rfl,h1,rfl,h2.r,rfl⟩,h2.m⟩
theorem oR.blk {w:Wd} {T:Ty} {b:Nat} {f0:Int} {f1:Int} {f2:List A8} {v2:Vl} {b2:List Nat} (K:nA w b #[.int .i64 f0,.int .i64 f1,v2] T) (h0:xL f0) (h1:xL f1) (h2:Rd (Sl 2 xJ) w v2 f2 b2):Rd (Pt 3 oR) w (.pointer (some ⟨b,0,none⟩)) (B1.mk f0 f1 f2) (b::(b2)):=by
 have hm:zW (b2) w:=h2.m;refine⟨⟨b,0,_,rfl,rfl,_,_,(K.cell (0+0)).trans rfl,h0,(K.cell (0+1)).trans rfl,h1,(K.cell (0+2)).trans rfl,h2.r,rfl⟩,λc hc=>?_⟩
 rcases Av.1 hc with rfl | hc
 ·exact K.lt
 ·exact hm c hc
structure rowT where
  numbers:List Int
  bys:List Int
def zP:ER rowT:=λw f x bs=>∃ v0 v1:Vl,∃ b0 b1:List Nat,f 0=some v0/\Sl 1 xF w v0 x.numbers b0/\f 1=some v1/\Sl 1 xF w v1 x.bys b1/\bs=b0++b1
theorem zP.fr:Fr 2 zP:=by
 intro w w' f g x bs h hs hg;obtain⟨v0,v1,b0,b1,h0,k0,h1,k1,rfl⟩:=h;exact⟨v0,v1,_,_,(hg 0 (by omega)).trans h0,k0.same xF.fr (λc hc=>hs c (by simp [hc])),(hg 1 (by omega)).trans h1,k1.same xF.fr (λc hc=>hs c (by simp [hc])),rfl⟩
instance:FrC 2 zP:=⟨zP.fr,λw f x bs h=>by
 obtain⟨v0,v1,b0,b1,h0,k0,h1,k1,hbs⟩:=h
 exact(jO (jO xEb h0 k0.one) h1 k1.one)⟩
theorem zP.f0 {w:Wd} {y:rowT}:∀ f bi,zP w f y bi->∃ bj,(kP 1 xF) w (λj=>f (0+j)) y.numbers bj/\∀ c∈bj,c∈bi:=λf bi h=>by
 obtain⟨v0,v1,b0,b1,h0,k0,h1,k1,qa⟩:=h;exact⟨b0,⟨v0,by simpa using h0,k0⟩,λc hc=>by rw[qa];simp [hc]⟩
theorem zP.rd {w:Wd} {v:Vl} {x:rowT} {bs:List Nat} (h:Rd (qS 2 zP) w v x bs):∃ v0 v1:Vl,∃ b0 b1:List Nat,v= .agg #[v0,v1]/\Rd (Sl 1 xF) w v0 x.numbers b0/\Rd (Sl 1 xF) w v1 x.bys b1/\bs=b0++b1:=by
 obtain⟨⟨cs,hl,rfl,v0,v1,b0,b1,h0,k0,h1,k1,qa⟩,hm⟩:=h
 match cs,hl with
 | [c0,c1],_=>
  obtain rfl:=Option.some.inj h0;obtain rfl:=Option.some.inj h1;exact⟨_,_,_,_,rfl,⟨k0,λc hc=>hm c (by rw[qa];simp [hc])⟩,⟨k1,λc hc=>hm c (by rw[qa];simp [hc])⟩,qa⟩
theorem zP.mk2 {w:Wd} {f0:List Int} {f1:List Int} {v0:Vl} {b0:List Nat} {v1:Vl} {b1:List Nat} (h0:Rd (Sl 1 xF) w v0 f0 b0) (h1:Rd (Sl 1 xF) w v1 f1 b1):Rd (qS 2 zP) w (.agg #[v0,v1]) (rowT.mk f0 f1) (b0++b1):= ⟨⟨[v0,v1],rfl,rfl,_,_,_,_,rfl,h0.r,rfl,h1.r,rfl⟩,(h0.m).append h1.m⟩
structure A9 where
  left:List Int
  right:Int
  bys:List Int
def qC:ER A9:=λw f x bs=>∃ v0 v2:Vl,∃ b0 b2:List Nat,f 0=some v0/\Sl 1 xF w v0 x.left b0/\f 1=some (.int .i64 x.right)/\xL x.right/\f 2=some v2/\Sl 1 xF w v2 x.bys b2/\bs=b0++b2
theorem qC.fr:Fr 3 qC:=by
 intro w w' f g x bs h hs hg;obtain⟨v0,v2,b0,b2,h0,k0,h1,k1,h2,k2,rfl⟩:=h;exact⟨v0,v2,_,_,(hg 0 (by omega)).trans h0,k0.same xF.fr (λc hc=>hs c (by simp [hc])),(hg 1 (by omega)).trans h1,k1,(hg 2 (by omega)).trans h2,k2.same xF.fr (λc hc=>hs c (by simp [hc])),rfl⟩
instance:FrC 3 qC:=⟨qC.fr,λw f x bs h=>by
 obtain⟨v0,v2,b0,b2,h0,k0,h1,k1,h2,k2,hbs⟩:=h
 exact(jO (jO (jO xEb h0 k0.one) h1 rfl) h2 k2.one)⟩
theorem qC.f0 {w:Wd} {y:A9}:∀ f bi,qC w f y bi->∃ bj,(kP 1 xF) w (λj=>f (0+j)) y.left bj/\∀ c∈bj,c∈bi:=λf bi h=>by
 obtain⟨v0,v2,b0,b2,h0,k0,h1,k1,h2,k2,qa⟩:=h;exact⟨b0,⟨v0,by simpa using h0,k0⟩,λc hc=>by rw[qa];simp [hc]⟩
theorem qC.f1 {w:Wd} {y:A9}:∀ f bi,qC w f y bi->∃ bj,xF w (λj=>f (1+j)) y.right bj/\∀ c∈bj,c∈bi:=λf bi h=>by
 obtain⟨v0,v2,b0,b2,h0,k0,h1,k1,h2,k2,hbs⟩:=h;exact⟨[],⟨by simpa using h1,k1,rfl⟩,λc hc=>nomatch hc⟩
theorem qC.rd {w:Wd} {v:Vl} {x:A9} {bs:List Nat} (h:Rd (qS 3 qC) w v x bs):∃ v0 v2:Vl,∃ b0 b2:List Nat,v= .agg #[v0,.int .i64 x.right,v2]/\Rd (Sl 1 xF) w v0 x.left b0/\xL x.right/\Rd (Sl 1 xF) w v2 x.bys b2/\bs=b0++b2:=by
 obtain⟨⟨cs,hl,rfl,v0,v2,b0,b2,h0,k0,h1,k1,h2,k2,qa⟩,hm⟩:=h
 match cs,hl with
 | [c0,c1,c2],_=>
  obtain rfl:=Option.some.inj h0;obtain rfl:=Option.some.inj h1;obtain rfl:=Option.some.inj h2;exact⟨_,_,_,_,rfl,⟨k0,λc hc=>hm c (by rw[qa];simp [hc])⟩,k1,⟨k2,λc hc=>hm c (by rw[qa];simp [hc])⟩,qa⟩
theorem qC.mk2 {w:Wd} {f0:List Int} {f1:Int} {f2:List Int} {v0:Vl} {b0:List Nat} {v2:Vl} {b2:List Nat} (h0:Rd (Sl 1 xF) w v0 f0 b0) (h1:xL f1) (h2:Rd (Sl 1 xF) w v2 f2 b2):Rd (qS 3 qC) w (.agg #[v0,.int .i64 f1,v2]) (A9.mk f0 f1 f2) (b0++b2):= ⟨⟨[v0,.int .i64 f1,v2],rfl,rfl,_,_,_,_,rfl,h0.r,rfl,h1,rfl,h2.r,rfl⟩,(h0.m).append h2.m⟩
structure lookT where
  rel:Int
  cells:List Int
def kE:ER lookT:=λw f x bs=>∃ v1:Vl,∃ b1:List Nat,f 0=some (.int .i64 x.rel)/\xL x.rel/\f 1=some v1/\Sl 1 xF w v1 x.cells b1/\bs=b1
theorem kE.fr:Fr 2 kE:=by
 intro w w' f g x bs h hs hg;obtain⟨v1,b1,h0,k0,h1,k1,rfl⟩:=h;exact⟨v1,_,(hg 0 (by omega)).trans h0,k0,(hg 1 (by omega)).trans h1,k1.same xF.fr (λc hc=>hs c (by simp [hc])),rfl⟩
instance:FrC 2 kE:=⟨kE.fr,λw f x bs h=>by
 obtain⟨v1,b1,h0,k0,h1,k1,hbs⟩:=h
 exact(jO (jO xEb h0 rfl) h1 k1.one)⟩
theorem kE.rd {w:Wd} {v:Vl} {x:lookT} {bs:List Nat} (h:Rd (qS 2 kE) w v x bs):∃ v1:Vl,∃ b1:List Nat,v= .agg #[.int .i64 x.rel,v1]/\xL x.rel/\Rd (Sl 1 xF) w v1 x.cells b1/\bs=b1:=by
 obtain⟨⟨cs,hl,rfl,v1,b1,h0,k0,h1,k1,qa⟩,hm⟩:=h
 match cs,hl with
 | [c0,c1],_=>
  obtain rfl:=Option.some.inj h0;obtain rfl:=Option.some.inj h1;exact⟨_,_,rfl,k0,⟨k1,λc hc=>hm c (by rw[qa];simp [hc])⟩,qa⟩
theorem kE.mk2 {w:Wd} {f0:Int} {f1:List Int} {v1:Vl} {b1:List Nat} (h0:xL f0) (h1:Rd (Sl 1 xF) w v1 f1 b1):Rd (qS 2 kE) w (.agg #[.int .i64 f0,v1]) (lookT.mk f0 f1) (b1):= ⟨⟨[.int .i64 f0,v1],rfl,rfl,_,_,rfl,h0,rfl,h1.r,rfl⟩,h1.m⟩
structure B4 where
  rel:Int
  ats:List Int
def qY:ER B4:=λw f x bs=>∃ v1:Vl,∃ b1:List Nat,f 0=some (.int .i64 x.rel)/\xL x.rel/\f 1=some v1/\Sl 1 xF w v1 x.ats b1/\bs=b1
theorem qY.fr:Fr 2 qY:=by
 intro w w' f g x bs h hs hg;obtain⟨v1,b1,h0,k0,h1,k1,rfl⟩:=h;exact⟨v1,_,(hg 0 (by omega)).trans h0,k0,(hg 1 (by omega)).trans h1,k1.same xF.fr (λc hc=>hs c (by simp [hc])),rfl⟩
instance:FrC 2 qY:=⟨qY.fr,λw f x bs h=>by
 obtain⟨v1,b1,h0,k0,h1,k1,hbs⟩:=h
 exact(jO (jO xEb h0 rfl) h1 k1.one)⟩
theorem qY.f0 {w:Wd} {y:B4}:∀ f bi,qY w f y bi->∃ bj,xF w (λj=>f (0+j)) y.rel bj/\∀ c∈bj,c∈bi:=λf bi h=>by
 obtain⟨v1,b1,h0,k0,h1,k1,hbs⟩:=h;exact⟨[],⟨by simpa using h0,k0,rfl⟩,λc hc=>nomatch hc⟩
theorem qY.f1 {w:Wd} {y:B4}:∀ f bi,qY w f y bi->∃ bj,(kP 1 xF) w (λj=>f (1+j)) y.ats bj/\∀ c∈bj,c∈bi:=λf bi h=>by
 obtain⟨v1,b1,h0,k0,h1,k1,qa⟩:=h;exact⟨b1,⟨v1,by simpa using h1,k1⟩,λc hc=>by rw[qa];simp [hc]⟩
theorem qY.mk2 {w:Wd} {f0:Int} {f1:List Int} {v1:Vl} {b1:List Nat} (h0:xL f0) (h1:Rd (Sl 1 xF) w v1 f1 b1):Rd (qS 2 qY) w (.agg #[.int .i64 f0,v1]) (B4.mk f0 f1) (b1):= ⟨⟨[.int .i64 f0,v1],rfl,rfl,_,_,rfl,h0,rfl,h1.r,rfl⟩,h1.m⟩
structure A3 where
  a:Int
  b:Int
  c:Int
section
variable {P:Program} {ops:Array Oper} {Q:Exit->Act->Wd->Prop} {C:Wd->Prop} {K:Act->Prop} {a:Act} {w:Wd} {n:Nat} {L:List (Nat×Vl)} {rest:List Oper} {d:Nat} {dd:Option Tmp} {ty:Ty} {pos:String} {af:Array Edge} {g:Option (Nat×Bool)}
end
end
section
open Go.RowKit
variable {x:Operand} {α:Type} {y:α} {i:Int} {R:ER α}
theorem n0 {N:Nat->Prop}:∀ c,N0 c->N c:=λ_ h=>h.elim
theorem n1 {N:Nat->Prop}:∀ c,N c->N c:=λ_ h=>h
def Ns (N:Nat->Prop):List As->Prop | []=>True | A::r=>(∀ c,A.N c->N c)/\Ns N r
theorem Ns.all {N:Nat->Prop}:∀ {K:List As},Ns N K->∀ A∈K,∀ c,A.N c->N c | [],_,_,h,_,_=>nomatch h | B::r,h,A,hA,c,hc=>(Av.1 hA).elim (λe=>h.1 c (e ▸ hc)) (λe=>Ns.all h.2 A e c hc)
theorem rw_m {N:Nat->Prop} {sz:Nat} [hR:FrC sz R] {E:Ty} {v:Vl} {xs:List α} {w:Wd} {rb ib:List Nat} (h:Row sz R E 0 w v xs rb ib) (hi:∀ c∈ib,N c):(rw N sz R E v xs).P w rb:=⟨rb,ib,h,λ_ hc=>hc,λc hc=>.inr (hi c hc)⟩
section
variable {P:Program} {a:Act} {w w1:Wd} {n:Nat} {L:List (Nat×Vl)} {d:Option Tmp} {ty:Ty} {pos:String} {af:Array Edge} {g:Option (Nat×Bool)} {M:Nat->Prop}
theorem xPp {sz:Nat} {iy:Operand} {t:Ty} {v:Vl} {l:List α} {e:Ty} (ht:P.underlying t=some (.slice e)) (qa:∀ w,(sizeOf e).run P w= .ok sz w) (F:Sk a n L) (he:ev L x=some v) (hi:ev L iy=some (.int .i64 i)) (h:Bo M w1 (Sl sz R) v l) (qc:ix l i=some y) : ∃ p,(∀ w',(execOp a.eval ⟨d,.indexAddr t x iy,ty,pos,af,g⟩).run P w'= .ok (.value p) w')/\Bo M w1 (Pt sz R) p y:=by
 obtain⟨bs,h1,h2⟩:=h;obtain⟨p,bi,hr,h3,h4⟩:=xUv (d:=d) (ty:=ty) (pos:=pos) (af:=af) (g:=g) ht qa F he hi h1 qc;exact⟨p,hr,bi,h3,λc hc=>h2 c (h4 c hc)⟩
theorem xPz {β:Type} {sz s':Nat} {R':ER β} {t:Ty} {kk:Nat} {p:Vl} {z:β} {off:Nat} (hp:∀ (a:Addr) w,(Instr.fieldAt t (.pointer (some a)) kk).run P w= .ok (.pointer (some (a.add off))) w) (F:Sk a n L) (he:ev L x=some p) (h:Bo M w1 (Pt sz R) p y) (hf:∀ f bi,R w1 f y bi->∃ bj,R' w1 (λj=>f (off+j)) z bj/\∀ c∈bj,c∈bi) : ∃ p',(∀ w',(execOp a.eval ⟨d,.fieldAddr t x kk,ty,pos,af,g⟩).run P w'= .ok (.value p') w')/\Bo M w1 (Pt s' R') p' z:=by
 obtain⟨bs,h1,h2⟩:=h;obtain⟨p',bj,hr,h3,h4⟩:=oCt (d:=d) (ty:=ty) (pos:=pos) (af:=af) (g:=g) (s':=s') hp F he h1 hf;exact⟨p',hr,bj,h3,λc hc=>h2 c (h4 c hc)⟩
theorem xZh {t:Ty} {p:Vl} {y:Int} (qa:∀ w,(isAgg t).run P w= .ok false w) (F:Sk a n L) (he:ev L x=some p) (h:Bo M w1 (Pt 1 xF) p y) : xL y/\∀ w',Sm M w1 w'->(execOp a.eval ⟨d,.load t x,ty,pos,af,g⟩).run P w'= .ok (.value (.int .i64 y)) w':= ⟨let ⟨_,h1,_⟩:=h;h1.i64,λw' s=>let ⟨_,h1,_⟩:=h.to s;oEk qa F he h1⟩
theorem xSz {t:Ty} {p:Vl} {y:Bool} (qa:∀ w,(isAgg t).run P w= .ok false w) (F:Sk a n L) (he:ev L x=some p) (h:Bo M w1 (Pt 1 aC) p y) :
 ∀ w',Sm M w1 w'->(execOp a.eval ⟨d,.load t x,ty,pos,af,g⟩).run P w'= .ok (.value (.bool y)) w':=λw' s=>let ⟨_,h1,_⟩:=h.to s;oDo qa F he h1
theorem oHd {sz:Nat} {t:Ty} {p:Vl} {y:List α} (qa:∀ w,(isAgg t).run P w= .ok false w) (F:Sk a n L) (he:ev L x=some p) (h:Bo M w1 (Pt 1 (kP sz R)) p y) : ∃ v,Bo M w1 (Sl sz R) v y/\∀ w',Sm M w1 w'->(execOp a.eval ⟨d,.load t x,ty,pos,af,g⟩).run P w'= .ok (.value v) w':=by
 obtain⟨bs,⟨⟨b,o,bi,rfl,rfl,v,h0,hr⟩,hm⟩,hN⟩:=h;refine⟨v,⟨bi,⟨hr,λc hc=>hm c (by simp [hc])⟩,λc hc=>hN c (by simp [hc])⟩,λw' s=>sY qa F he ?_⟩;rw[tL (s.blk b (hN b (by simp)))]
 simpa using h0
theorem oJl {sz:Nat} {t:Ty} {p:Vl} (qa:∀ w,(isAgg t).run P w= .ok false w) (F:Sk a n L) (he:ev L x=some p) (h:Bo M w1 (Pt 1 (RP sz R)) p y) : ∃ v,Bo M w1 (Pt sz R) v y/\∀ w',Sm M w1 w'->(execOp a.eval ⟨d,.load t x,ty,pos,af,g⟩).run P w'= .ok (.value v) w':=by
 obtain⟨bs,⟨⟨b,o,bi,rfl,rfl,v,h0,hr⟩,hm⟩,hN⟩:=h;refine⟨v,⟨bi,⟨hr,λc hc=>hm c (by simp [hc])⟩,λc hc=>hN c (by simp [hc])⟩,λw' s=>sY qa F he ?_⟩;rw[tL (s.blk b (hN b (by simp)))]
 simpa using h0
theorem oAz {sz:Nat} [hR:FrC sz R] {t:Ty} {p:Vl} (qd:∀ w,(isAgg t).run P w= .ok true w) (qe:∀ w,(sizeOf t).run P w= .ok sz w) (F:Sk a n L) (he:ev L x=some p) (h:Bo M w1 (Pt sz R) p y) :
 ∃ v,Bo M w1 (qS sz R) v y/\∀ w',Sm M w1 w'->(execOp a.eval ⟨d,.load t x,ty,pos,af,g⟩).run P w'= .ok (.value v) w':=by
 obtain⟨bs,⟨⟨b,o,bi,rfl,rfl,hr⟩,hm⟩,hN⟩:=h;have ht:=hR.tot _ _ _ _ hr;refine⟨.agg ((List.range sz).map (λj=>(w1.cell? ⟨b,o+j,none⟩).getD undef)).toArray,⟨bi,⟨qS.of_cells hR.fr hr _ (by simp) (λj hj=>?_),λc hc=>hm c (by simp [hc])⟩,λc hc=>hN c (by simp [hc])⟩,λw' s=>?_⟩
 ·rw[Ay,Dz hj]
  obtain⟨u,hu,_⟩:=ht j hj;rw[Cr,hu]
  rfl
 ·unfold execOp
  simp only[F.ev he]
  have hl:=run_loadCells_list (P:=P) w' ⟨b,o,none⟩ ((List.range sz).map (λj=>(w1.cell? ⟨b,o+j,none⟩).getD undef)) (λj v hj=>by
   rw[Ay] at hj
   have qc:j<sz:=by
    cases h:(List.range sz)[j]? with
    | none=>simp [h] at hj
    | some k=>simpa using (Ac.1 h).1
   rw[Dz qc] at hj;obtain⟨u,hu,_⟩:=ht j qc;have qa:=dW b o j;rw[qa,tL (s.blk b (hN b (by simp))),hu];rw[Cr,hu] at hj
   exact hj)
  rw[Bu,List.length_range] at hl
  simp [Instr.loadAt,Instr.sureAddr,loadVar,qd,qe,hl]
theorem Bo.slen {sz:Nat} {v:Vl} {l:List α} (h:Bo M w1 (Sl sz R) v l):xL (l.length:Int):=let ⟨_,h1,_⟩:=h;h1.r.len64
theorem Bo.snil {sz:Nat}:Bo M w1 (Sl sz R) (.slice none 0 0) []:=⟨[],Rd.nil sz R w1,λ_ h=>nomatch h⟩
theorem oAo {sz:Nat} {p:Vl} (F:Sk a n L) (e:ev L x=some p) (h:Bo M w1 (Pt sz R) p y) (w':Wd):(execOp a.eval ⟨d,.nilCheck x,ty,pos,af,g⟩).run P w'= .ok (.value p) w':=by
 obtain⟨_,⟨⟨b,o,bi,rfl,_⟩,_⟩,_⟩:=h;exact yY F e
theorem oAq {sz:Nat} {t:Ty} {v:Vl} {l:List α} {e:Ty} (ht:P.underlying t=some (.slice e)) (F:Sk a n L) (he:ev L x=some v) (h:Bo M w1 (Sl sz R) v l) (w':Wd) :
 (execOp a.eval ⟨d,.call ⟨.builtin .len,#[x],#[t]⟩,ty,pos,af,g⟩).run P w'= .ok (.value (.int .i64 l.length)) w':=let ⟨_,h1,_⟩:=h;oKy ht F he h1.r w'
theorem oFr {sz:Nat} [hR:FrC sz R] {t e:Ty} {v:Vl} {l r:List α} {j:Int} {lo hi:Option Operand} (ht:P.underlying t=some (.slice e)) (qd:∀ w,(sizeOf e).run P w= .ok sz w) (F:Sk a n L) (he:ev L x=some v)
 (qa:match lo with | some y=>ev L y=some (.int .i64 i) | none=>i=0) (qc:match hi with | some y=>ev L y=some (.int .i64 j) | none=>j=l.length) (h:Bo M w1 (Sl sz R) v l) (hs:sl l i j=some r) :
 ∃ v',Bo M w1 (Sl sz R) v' r/\∀ w',(execOp a.eval ⟨d,.slice t x lo hi none,ty,pos,af,g⟩).run P w'= .ok (.value v') w':=by
 obtain⟨bs,h1,h2⟩:=h;obtain⟨v',bi,h3,h4,h5⟩:=oJp ht qd h1 hs;refine⟨v',⟨bi,h3,λc hc=>h2 c (h4 c hc)⟩,λw'=>?_⟩
 cases lo with
 | none=>
  cases hi with
  | none=>
   have:=h5 none none (.inr ⟨rfl,qa⟩) (.inr ⟨rfl,qc⟩) w'
   unfold execOp
   simp only[F.ev he,Option.map_none]
   simp [this]
  | some y=>
   have:=h5 none (some (.int .i64 j)) (.inr ⟨rfl,qa⟩) (.inl rfl) w'
   unfold execOp
   simp only[F.ev he,Option.map_none,Cr,F.ev qc]
   simp [this]
 | some z=>
  cases hi with
  | none=>
   have:=h5 (some (.int .i64 i)) none (.inl rfl) (.inr ⟨rfl,qc⟩) w'
   unfold execOp
   simp only[F.ev he,Option.map_none,Cr,F.ev qa]
   simp [this]
  | some y=>
   have:=h5 (some (.int .i64 i)) (some (.int .i64 j)) (.inl rfl) (.inl rfl) w'
   unfold execOp
   simp only[F.ev he,Cr,F.ev qa,F.ev qc]
   simp [this]
end
section
variable {P:Program} {ops:Array Oper} {Q:Exit->Act->Wd->Prop} {a:Act} {w w0 w1:Wd} {n:Nat} {L:List (Nat×Vl)} {rest:List Oper} {d:Nat} {ty:Ty} {pos:String} {af:Array Edge} {g:Option (Nat×Bool)} {M N:Nat->Prop} {X:List Nat} {D:List As}
theorem oI {sz:Nat} {iy:Operand} {t:Ty} {v:Vl} {l:List α} {e:Ty} (ht:P.underlying t=some (.slice e)) (qa:∀ w,(sizeOf e).run P w= .ok sz w)
 (F:Sk a n L) (hc:vO ops n L g d=true) (he:ev L x=some v) (hi:ev L iy=some (.int .i64 i)) (h:Bo M w1 (Sl sz R) v l) (qc:ix l i=some y)
 (k:∀ a' p,Bo M w1 (Pt sz R) p y->Sk a' n ((d,p)::L)->wpList P ops Q rest a' w):wpList P ops Q (⟨some d,.indexAddr t x iy,ty,pos,af,g⟩::rest) a w:=
 let ⟨p,hr,hp⟩:=xPp ht qa F he hi h qc;zT F hc (hr w) (λa' F'=>k a' p hp F')
theorem oF {β:Type} {sz s':Nat} {R':ER β} {t:Ty} {kk:Nat} {p:Vl} {z:β} {off:Nat} (hp:∀ (a:Addr) w,(Instr.fieldAt t (.pointer (some a)) kk).run P w= .ok (.pointer (some (a.add off))) w)
 (F:Sk a n L) (hc:vO ops n L g d=true) (he:ev L x=some p) (h:Bo M w1 (Pt sz R) p y) (hf:∀ f bi,R w1 f y bi->∃ bj,R' w1 (λj=>f (off+j)) z bj/\∀ c∈bj,c∈bi)
 (k:∀ a' p',Bo M w1 (Pt s' R') p' z->Sk a' n ((d,p')::L)->wpList P ops Q rest a' w):wpList P ops Q (⟨some d,.fieldAddr t x kk,ty,pos,af,g⟩::rest) a w:=
 let ⟨p',hr,h'⟩:=xPz (s':=s') hp F he h hf;zT F hc (hr w) (λa' F'=>k a' p' h' F')
theorem olI {t:Ty} {p:Vl} {y:Int} (qa:∀ w,(isAgg t).run P w= .ok false w) (F:Sk a n L) (hc:vO ops n L g d=true) (he:ev L x=some p) (s:Sm M w1 w) (h:Bo M w1 (Pt 1 xF) p y)
 (k:∀ a',xL y->Sk a' n ((d,.int .i64 y)::L)->wpList P ops Q rest a' w):wpList P ops Q (⟨some d,.load t x,ty,pos,af,g⟩::rest) a w:=
 let ⟨i,hr⟩:=xZh qa F he h;zT F hc (hr w s) (λa' F'=>k a' i F')
theorem olB {t:Ty} {p:Vl} {y:Bool} (qa:∀ w,(isAgg t).run P w= .ok false w) (F:Sk a n L) (hc:vO ops n L g d=true) (he:ev L x=some p) (s:Sm M w1 w) (h:Bo M w1 (Pt 1 aC) p y) (k:∀ a',Sk a' n ((d,.bool y)::L)->wpList P ops Q rest a' w):wpList P ops Q (⟨some d,.load t x,ty,pos,af,g⟩::rest) a w:=zT F hc (xSz qa F he h w s) k
theorem olS {sz:Nat} {t:Ty} {p:Vl} {y:List α} (qa:∀ w,(isAgg t).run P w= .ok false w) (F:Sk a n L) (hc:vO ops n L g d=true) (he:ev L x=some p) (s:Sm M w1 w) (h:Bo M w1 (Pt 1 (kP sz R)) p y)
 (k:∀ a' v,Bo M w1 (Sl sz R) v y->Sk a' n ((d,v)::L)->wpList P ops Q rest a' w):wpList P ops Q (⟨some d,.load t x,ty,pos,af,g⟩::rest) a w:=
 let ⟨v,hv,hr⟩:=oHd qa F he h;zT F hc (hr w s) (λa' F'=>k a' v hv F')
theorem olA {sz:Nat} [hR:FrC sz R] {t:Ty} {p:Vl} (qa:∀ w,(isAgg t).run P w= .ok true w) (qc:∀ w,(sizeOf t).run P w= .ok sz w) (F:Sk a n L) (hc:vO ops n L g d=true) (he:ev L x=some p) (s:Sm M w1 w) (h:Bo M w1 (Pt sz R) p y)
 (k:∀ a' v,Bo M w1 (qS sz R) v y->Sk a' n ((d,v)::L)->wpList P ops Q rest a' w):wpList P ops Q (⟨some d,.load t x,ty,pos,af,g⟩::rest) a w:=
 let ⟨v,hv,hr⟩:=oAz qa qc F he h;zT F hc (hr w s) (λa' F'=>k a' v hv F')
theorem oL {sz:Nat} {t:Ty} {v:Vl} {l:List α} {e:Ty} (ht:P.underlying t=some (.slice e)) (F:Sk a n L) (hc:vO ops n L g d=true) (he:ev L x=some v) (h:Bo M w1 (Sl sz R) v l) (k:∀ a',xL (l.length:Int)->Sk a' n ((d,.int .i64 l.length)::L)->wpList P ops Q rest a' w):wpList P ops Q (⟨some d,.call ⟨.builtin .len,#[x],#[t]⟩,ty,pos,af,g⟩::rest) a w:=zT F hc (oAq ht F he h w) (λa' F'=>k a' h.slen F')
theorem oC {sz:Nat} [hR:FrC sz R] {t e:Ty} {v:Vl} {l r:List α} {j:Int} {lo hi:Option Operand} (ht:P.underlying t=some (.slice e)) (qa:∀ w,(sizeOf e).run P w= .ok sz w) (F:Sk a n L) (hc:vO ops n L g d=true) (he:ev L x=some v)
 (qc:match lo with | some y=>ev L y=some (.int .i64 i) | none=>i=0) (qd:match hi with | some y=>ev L y=some (.int .i64 j) | none=>j=l.length) (h:Bo M w1 (Sl sz R) v l) (hs:sl l i j=some r)
 (k:∀ a' v',Bo M w1 (Sl sz R) v' r->Sk a' n ((d,v')::L)->wpList P ops Q rest a' w):wpList P ops Q (⟨some d,.slice t x lo hi none,ty,pos,af,g⟩::rest) a w:=
 let ⟨v',hv,hr⟩:=oFr ht qa F he qc qd h hs;zT F hc (hr w) (λa' F'=>k a' v' hv F')
theorem oN {sz:Nat} {p:Vl} (F:Sk a n L) (hc:vO ops n L g d=true) (e:ev L x=some p) (h:Bo M w1 (Pt sz R) p y)
 (k:∀ a',Sk a' n ((d,p)::L)->wpList P ops Q rest a' w):wpList P ops Q (⟨some d,.nilCheck x,ty,pos,af,g⟩::rest) a w:=
 have hr:=oAo (d:=some d) (ty:=ty) (pos:=pos) (af:=af) (g:=g) F e h;zT F hc (hr w) k
theorem oA {T:Ty} {z:Vl} {cs:List Vl} (hz:∀ w,(zeroValue T).run P w= .ok z w) (F:Sk a n L) (hc:vO ops n L g d=true) (ha:z.cells=cs.toArray) (H:Sep X N w0 w D) (k:∀ a' w' b,Sep X N w0 w' (bx b cs T::D)->Sk a' n ((d,.pointer (some ⟨b,0,none⟩))::L)->wpList P ops Q rest a' w'):wpList P ops Q (⟨some d,.alloc T,ty,pos,af,g⟩::rest) a w:= oEg hz F hc ha (λa' w' b K l hb F'=>k a' w' b (H.push l (A:=bx b cs T) (Y0:=[b]) ⟨K,by simp⟩ n0 (λc hc=>by rw[Bd] at hc;subst hc;exact⟨hb,K.lt⟩)) F')
theorem oX {T:Ty} {v:Vl} {cs:List Vl} (F:Sk a n L) (hc:vO ops n L g d=true) (he:ev L x=some v) (ha:v.cells=cs.toArray) (H:Sep X N w0 w D) (k:∀ a' w' b,Sep X N w0 w' (bx b cs T::D)->Sk a' n ((d,.pointer (some ⟨b,0,none⟩))::L)->wpList P ops Q rest a' w'):wpList P ops Q (⟨some d,.box T x,ty,pos,af,g⟩::rest) a w:= oLa F hc he ha (λa' w' b K l hb F'=>k a' w' b (H.push l (A:=bx b cs T) (Y0:=[b]) ⟨K,by simp⟩ n0 (λc hc=>by rw[Bd] at hc;subst hc;exact⟨hb,K.lt⟩)) F')
theorem oB {t:Ty} {b o:Nat} {v:Vl} {cs:List Vl} {T:Ty} (qa:∀ w,(isAgg t).run P w= .ok false w) (F:Sk a n L) (hc:vO ops n L g d=true) (he:ev L x=some (.pointer (some ⟨b,o,none⟩))) (h:nA w b cs.toArray T) (hv:cs[o]?=some v) (k:∀ a',Sk a' n ((d,v)::L)->wpList P ops Q rest a' w):wpList P ops Q (⟨some d,.load t x,ty,pos,af,g⟩::rest) a w:=oCw qa F hc he h (by simpa using hv) k
theorem oBA {t:Ty} {b o sz:Nat} {cs vs:List Vl} {T:Ty} (qa:∀ w,(isAgg t).run P w= .ok true w) (qc:∀ w,(sizeOf t).run P w= .ok sz w) (F:Sk a n L) (hc:vO ops n L g d=true) (he:ev L x=some (.pointer (some ⟨b,o,none⟩))) (h:nA w b cs.toArray T) (hv:(cs.drop o).take sz=vs) (hl:vs.length=sz) (k:∀ a',Sk a' n ((d,.agg vs.toArray)::L)->wpList P ops Q rest a' w):wpList P ops Q (⟨some d,.load t x,ty,pos,af,g⟩::rest) a w:= oAa qa qc F hc he h hl (λj hj=>by subst hv;simp [Be,hj]) k
theorem oW {y:Operand} {t:Ty} {b o:Nat} {v:Vl} {cs cs':List Vl} {T:Ty} (qa:∀ w,(sizeOf t).run P w= .ok 1 w) (F:Sk a n L) (hc:gok ops L g=true) (he:ev L x=some (.pointer (some ⟨b,o,none⟩))) (qc:ev L y=some v) (H:Sep X N w0 w (bx b cs T::D)) (hv:v.oneCell'=true) (ho:Nat.blt o cs.length=true) (qd:cs.set o v=cs')
 (k:∀ w',Sep X N w0 w' (bx b cs' T::D)->wpList P ops Q rest a w'):wpList P ops Q (⟨none,.store t x y,ty,pos,af,g⟩::rest) a w:=by
 obtain⟨Y,⟨hK,hb⟩,_,hY,tr⟩:=H.hd;have qe:o<cs.length:=Ax ho;refine xKq (arr':=cs'.toArray) qa F hc he qc hK hv (by simpa using qe) (by subst qd;simp) (λw' K l=>k w' (tr (Z:=[b]) (λc hc=>by rw[Bd] at hc;rw[hc];exact hb) l (Y1:=[b]) ⟨K,by simp⟩ n0 (λc hc=>?_)));rw[Bd] at hc;subst hc;exact⟨.inl hb,K.lt⟩
theorem oWA {y:Operand} {t:Ty} {b o:Nat} {vs cs cs':List Vl} {T:Ty} (qa:∀ w,(sizeOf t).run P w= .ok vs.length w) (F:Sk a n L) (hc:gok ops L g=true) (he:ev L x=some (.pointer (some ⟨b,o,none⟩))) (qc:ev L y=some (.agg vs.toArray)) (H:Sep X N w0 w (bx b cs T::D)) (hv:∀ v∈vs,v.oneCell'=true) (ho:Nat.ble (o+vs.length) cs.length=true) (qd:cs.take o++vs++cs.drop (o+vs.length)=cs')
 (k:∀ w',Sep X N w0 w' (bx b cs' T::D)->wpList P ops Q rest a w'):wpList P ops Q (⟨none,.store t x y,ty,pos,af,g⟩::rest) a w:=by
 obtain⟨Y,⟨hK,hb⟩,_,hY,tr⟩:=H.hd;have qe:o+vs.length<=cs.length:=Ax ho;refine xNm (arr':=cs'.toArray) qa F hc he qc hK hv (by simpa using qe) (by subst qd;simp) (λw' K l=>k w' (tr (Z:=[b]) (λc hc=>by rw[Bd] at hc;rw[hc];exact hb) l (Y1:=[b]) ⟨K,by simp⟩ n0 (λc hc=>?_)));rw[Bd] at hc;subst hc;exact⟨.inl hb,K.lt⟩
theorem Row.push {sz:Nat} [hR:FrC sz R] {E:Ty} {v:Vl} {xs:List α} {rb:List Nat} {w':Wd} (H:Sep X N w0 w D) (l:Below w.heap.size w w') (r:Row sz R E w.heap.size w' v xs rb []):Sep X N w0 w' (rl sz R E v xs::D):= H.push l (A:=rl sz R E v xs) (Y0:=rb) ⟨rb,[],r.base (Dc _),Own.nil _ _,λ_ hc=>hc,λ_ h=>nomatch h⟩ n0 (λc hc=>⟨(r.blk c hc).1,r.memR c hc⟩)
theorem oR0 {sz:Nat} [hR:FrC sz R] {t e:Ty} (ht:P.underlying t=some (.slice e)) (qa:∀ w,(sizeOf e).run P w= .ok sz w) (F:Sk a n L) (hc:vO ops n L g d=true) (H:Sep X N w0 w D) (k:∀ a' w' v,Sep X N w0 w' (rl sz R e v []::D)->Sk a' n ((d,v)::L)->wpList P ops Q rest a' w'):wpList P ops Q (⟨some d,.buildSlice t 0 #[],ty,pos,af,g⟩::rest) a w:= oFy (R:=R) ht qa F hc (λa' w' v rb r l F'=>k a' w' v (r.push H l) F')
theorem oRM {sz:Nat} [hR:FrC sz R] {y:Operand} {t E:Ty} {z:Vl} {bytes:Nat} {zero:α} {l:List α} (ht:P.underlying t=some (.slice E)) (qa:(P.info? E).map (λi=>(i.zero,i.size,i.bytes))=some (some z,sz,bytes)) (qc:z.cells.size=sz) (qd:0<sz) (qe:bytes<=1024) (qf:∀ w,R w (λj=>z.cells[j]?) zero []) (F:Sk a n L) (hc:vO ops n L g d=true) (hx:ev L x=some (.int .i64 i)) (hy:ev L y=some (.int .i64 i)) (hl:pN zero i=some l) (H:Sep X N w0 w D) (k:∀ a' w' v,Sep X N w0 w' (rl sz R E v l::D)->Sk a' n ((d,v)::L)->wpList P ops Q rest a' w'):wpList P ops Q (⟨some d,.makeSlice t x y,ty,pos,af,g⟩::rest) a w:= oIc (R:=R) ht qa qc qd qe qf F hc hx hy hl (λa' w' v rb r l F'=>k a' w' v (r.push H l) F')
theorem oRI {t e:Ty} {z:Vl} {parts:Array (Nat×Operand)} {m:Nat} {xs:List Operand} {l:List Int} (ht:P.underlying t=some (.slice e)) (qa:∀ w,(sizeOf e).run P w= .ok 1 w) (hz:∀ w,(zeroValue e).run P w= .ok z w) (qc:z.cells.size=1) (F:Sk a n L) (hc:vO ops n L g d=true) (hp:parts.toList=(List.range' 0 xs.length).zip xs) (hm:m=l.length) (qd:Nat.ble l.length 1000=true) (qe:Nat.blt 0 l.length=true) (hx:evs L xs=some (l.map (Value.int .i64))) (hI:∀ y∈l,xL y) (H:Sep X N w0 w D) (k:∀ a' w' v,Sep X N w0 w' (rl 1 xF e v l::D)->Sk a' n ((d,v)::L)->wpList P ops Q rest a' w'):wpList P ops Q (⟨some d,.buildSlice t m parts,ty,pos,af,g⟩::rest) a w:= oIh ht qa hz qc F hc hp hm (Ax qd) (Ax qe) hx hI (λa' w' v rb r l F'=>k a' w' v (r.push H l) F')
end
end
section
open Go.RowKit
variable {α:Type} {R:ER α} {x:Operand} {y:α}
def Eo (N:Nat->Prop) (w:Wd) (sz:Nat) (R:ER α) (v:Vl) (x:α):Prop:=∃ bs,El sz R w v x bs/\∀ c∈bs,N c
section
variable {N:Nat->Prop} {w:Wd}
theorem Eo.int {x:Int} (h:xL x):Eo N w 1 xF (.int .i64 x) x:=⟨[],El.int h,λ_ h=>nomatch h⟩
theorem Eo.bool {x:Bool}:Eo N w 1 aC (.bool x) x:=⟨[],El.bool,λ_ h=>nomatch h⟩
theorem Eo.sl {sz:Nat} {v:Vl} {l:List α} (h:Bo N w (Sl sz R) v l):Eo N w 1 (kP sz R) v l:=let ⟨bs,h1,h2⟩:=h;⟨bs,El.sl h1,h2⟩
theorem Eo.agg {sz:Nat} [hR:FrC sz R] {v:Vl} {x:α} (h:Bo N w (qS sz R) v x):Eo N w sz R v x:=let ⟨bs,h1,h2⟩:=h;⟨bs,El.agg h1,h2⟩
theorem Rdg.l {A B:As} (h:Rdg N w (pr A B)):Rdg N w A:=let ⟨Y,⟨Y1,Y2,h1,h2,_,h4,h5⟩,h6,h7⟩:=h;⟨Y1,h1,λc hc=>h6 c (h4 c hc),λc hc=>h7 c (.inl hc)⟩
theorem Rdg.r {A B:As} (h:Rdg N w (pr A B)):Rdg N w B:=let ⟨Y,⟨Y1,Y2,h1,h2,_,h4,h5⟩,h6,h7⟩:=h;⟨Y2,h2,λc hc=>h6 c (h5 c hc),λc hc=>h7 c (.inr hc)⟩
end
class Flat {α:Type} (R:ER α):Prop where
  nil:∀ w f x bs,R w f x bs->bs=[]
instance:Flat xF:=⟨λ_ _ _ _ h=>h.2.2⟩
instance:Flat aC:=⟨λ_ _ _ _ h=>h.2⟩
section
variable {P:Program} {ops:Array Oper} {Q:Exit->Act->Wd->Prop} {a:Act} {w w0 w1:Wd} {n:Nat} {L:List (Nat×Vl)} {rest:List Oper} {d:Nat} {ty:Ty} {pos:String} {af:Array Edge} {g:Option (Nat×Bool)} {M N N1:Nat->Prop} {X:List Nat} {D:List As} {A B:As}
theorem oR1 {sz:Nat} [hR:FrC sz R] {t e:Ty} {z:Vl} {v:Vl} (ht:P.underlying t=some (.slice e)) (qa:∀ w,(sizeOf e).run P w= .ok sz w) (hz:∀ w,(zeroValue e).run P w= .ok z w) (qc:z.cells.size=sz) (hb:(Nat.blt 0 sz && Nat.ble sz 1000)=true) (F:Sk a n L) (hc:vO ops n L g d=true) (hx:ev L x=some v) (H:Sep X N w0 w D) (h1:∀ c,N1 c->N c) (h:Eo N1 w sz R v y) (k:∀ a' w' v',Sep X N w0 w' (rw N1 sz R e v' [y]::D)->Sk a' n ((d,v')::L)->wpList P ops Q rest a' w'):wpList P ops Q (⟨some d,.buildSlice t 1 #[(0,x)],ty,pos,af,g⟩::rest) a w:=by
 rw[Ba] at hb;obtain⟨bs,h2,h3⟩:=h;exact xOo ht qa hz qc (Ax hb.1) (Ax hb.2) F hc hx h2 (λa' w' v' rb r l F'=>k a' w' v' (H.push l (A:=rw N1 sz R e v' [y]) (Y0:=rb) (rw_m (r.base (Dc _)) h3) h1 (λc hc=>⟨(r.blk c hc).1,r.memR c hc⟩)) F')
theorem oR1c {sz:Nat} [hR:FrC sz R] {t e:Ty} {z:Vl} {v:Vl} (ht:P.underlying t=some (.slice e)) (qa:∀ w,(sizeOf e).run P w= .ok sz w) (hz:∀ w,(zeroValue e).run P w= .ok z w) (qc:z.cells.size=sz) (hb:(Nat.blt 0 sz && Nat.ble sz 1000)=true) (F:Sk a n L) (hc:vO ops n L g d=true) (hx:ev L x=some v) (H:Sep X N w0 w (A::D)) (h1:∀ c,N1 c->N c) (hA:∀ c,A.N c->N1 c) (h:∀ {N':Nat->Prop},(∀ c,N1 c->N' c)->Rdg N' w A->Eo N' w sz R v y) (k:∀ a' w' v',Sep X N w0 w' (rw N1 sz R e v' [y]::D)->Sk a' n ((d,v')::L)->wpList P ops Q rest a' w'):wpList P ops Q (⟨some d,.buildSlice t 1 #[(0,x)],ty,pos,af,g⟩::rest) a w:=by
 rw[Ba] at hb;obtain⟨Y,hP,_,hY,tr⟩:=H.hd;obtain⟨bs,h2,h3⟩:=h (N':=λc=>c∈Y∨N1 c) (λc hc=>.inr hc) ⟨Y,hP,λc hc=>.inl hc,λc hc=>.inr (hA c hc)⟩;refine xOo ht qa hz qc (Ax hb.1) (Ax hb.2) F hc hx h2 (λa' w' v' rb r l F'=>k a' w' v' (tr (Z:=[]) (λ_ h=>nomatch h) (B5.of_below l) (B:=rw N1 sz R e v' [y]) (Y1:=Y++rb) ⟨rb,bs,r.base (Dc _),λc hc=>Bq _ hc,λc hc=>(h3 c hc).imp (λh=>Bt _ h) id⟩ h1 (λc hc=>?_)) F')
 rcases Ar.1 hc with hc | hc
 ·exact⟨.inl hc,At (hY c hc).1 l.size⟩
 ·exact⟨.inr (r.blk c hc).1,r.memR c hc⟩
theorem xTq {rb rb' Y:List Nat} {w w':Wd} (hrb:∀ c∈rb,c∈Y) (hn:∀ X,zW X w->Dj X rb->Dj X rb') {c:Nat} (hc:c∈rb'):c∈Y∨w.heap.size<=c:=by
 by_cases h1:c∈Y
 ·exact .inl h1
 ·by_cases h2:w.heap.size<=c
  ·exact .inr h2
  ·exact absurd hc (hn [c] (λb hb=>by rw[Bd] at hb;subst hb;omega) (λb hb hm=>by rw[Bd] at hb;subst hb;exact h1 (hrb b hm)) c (by simp))
theorem oP {sz:Nat} [hR:FrC sz R] {y:Operand} {t E E':Ty} {z:Vl} {bytes:Nat} {v u:Vl} {l m r:List α} (ht:P.underlying t=some (.slice E)) (qa:(P.info? E).map (λi=>(i.zero,i.size,i.bytes))=some (some z,sz,bytes)) (qd:z.cells.size=sz) (hb:(Nat.blt 0 sz && (Nat.ble bytes 1024 && Nat.blt 0 bytes))=true)
 (F:Sk a n L) (hc:vO ops n L g d=true) (hx:ev L x=some v) (hy:ev L y=some u) (H:Sep X N w0 w (rw N1 sz R E v l::rw N1 sz R E' u m::D)) (qe:ap l m=some r)
 (k:∀ a' w' v',Sep X N w0 w' (rw N1 sz R E v' r::D)->Sk a' n ((d,v')::L)->wpList P ops Q rest a' w'):wpList P ops Q (⟨some d,.call ⟨.builtin .append,#[x,y],#[t,t]⟩,ty,pos,af,g⟩::rest) a w:=by
 simp only[Ba] at hb;obtain⟨Y,⟨Y1,Y2,⟨rb,ib,r1,r2,r3⟩,⟨rb2,ib2,s1,s2,s3⟩,dj,y1,y2⟩,hN,hY,tr⟩:=H.mg.hd;have qc:∀ c,N1 c->N c:=λc hc=>hN c (.inl hc);refine xKj ht qa qd (Ax hb.1) (Ax hb.2.1) (Ax hb.2.2) F hc hx hy r1 s1.src (Dc _) (λc hc qf=>?_) qe (λa' w' v' rb' q o hn F'=>k a' w' v' (tr (Z:=rb) (λc hc=>y1 c (r2 c hc)) o (B:=rw N1 sz R E v' r) (Y1:=Y++rb') ⟨rb',ib++ib2,q,λc hc=>Bq _ hc,λc hc=>?_⟩ qc (λc hc=>?_)) F')
 ·rcases s3 c qf with h | h
  ·exact dj c (r2 c hc) h
  ·exact(hY c (y1 c (r2 c hc))).2 (qc c h)
 ·rcases Ar.1 hc with hc | hc
  ·exact(r3 c hc).imp (λh=>Bt _ (y1 c h)) id
  ·exact(s3 c hc).imp (λh=>Bt _ (y2 c h)) id
 ·rcases Ar.1 hc with hc | hc
  ·exact⟨.inl hc,At (hY c hc).1 o.size⟩
  ·exact⟨xTq (w':=w') (λc hc=>y1 c (r2 c hc)) hn hc,q.memR c hc⟩
theorem oPf {sz:Nat} [hR:FrC sz R] [hf:Flat R] {y:Operand} {t E:Ty} {z:Vl} {bytes:Nat} {v u:Vl} {l m r:List α} (ht:P.underlying t=some (.slice E)) (qa:(P.info? E).map (λi=>(i.zero,i.size,i.bytes))=some (some z,sz,bytes)) (qc:z.cells.size=sz) (hb:(Nat.blt 0 sz && (Nat.ble bytes 1024 && Nat.blt 0 bytes))=true) (F:Sk a n L) (hc:vO ops n L g d=true) (hx:ev L x=some v) (hy:ev L y=some u) (H:Sep X N w0 w (rw N1 sz R E v l::D)) (hs:Bo M w (Sl sz R) u m) (qd:ap l m=some r) (k:∀ a' w' v',Sep X N w0 w' (rw N1 sz R E v' r::D)->Sk a' n ((d,v')::L)->wpList P ops Q rest a' w'):wpList P ops Q (⟨some d,.call ⟨.builtin .append,#[x,y],#[t,t]⟩,ty,pos,af,g⟩::rest) a w:=by
 simp only[Ba] at hb;obtain⟨Y,⟨rb,ib,r1,r2,r3⟩,hN,hY,tr⟩:=H.hd;obtain⟨bs,h1,h2⟩:=hs;obtain⟨ib2,s1,s2⟩:=Rd.src (Ax hb.1) h1;obtain rfl:ib2=[]:=xXc s1 hf.nil;refine xKj ht qa qc (Ax hb.1) (Ax hb.2.1) (Ax hb.2.2) F hc hx hy r1 s1 (Dc _) (Dj.nil _) qd (λa' w' v' rb' q o hn F'=>k a' w' v' (tr (Z:=rb) r2 o (B:=rw N1 sz R E v' r) (Y1:=Y++rb') ⟨rb',ib++[],q,λc hc=>Bq _ hc,λc hc=>?_⟩ hN (λc hc=>?_)) F')
 ·rw[Cd] at hc
  exact(r3 c hc).imp (λh=>Bt _ h) id
 ·rcases Ar.1 hc with hc | hc
  ·exact⟨.inl hc,At (hY c hc).1 o.size⟩
  ·exact⟨xTq (w':=w') r2 hn hc,q.memR c hc⟩
theorem Sep.hN (H:Sep X N w0 w D):∀ c,N c->c<w.heap.size:=λc hc=>At (H.nb c hc).1 H.fr.size
theorem Sep.nl (H:Sep X N w0 w D) (sz:Nat) (R:ER α) [hR:FrC sz R] (E:Ty):Sep X N w0 w (rl sz R E (.slice none 0 0) []::D):= H.push (Below.refl _ _) (A:=rl sz R E (.slice none 0 0) []) (Y0:=[]) ⟨[],[],Row.nil sz R E 0 w,Own.nil _ _,(λ_ h=>nomatch h),(λ_ h=>nomatch h)⟩ n0 (λ_ h=>nomatch h)
theorem Sep.lw {sz:Nat} [hR:FrC sz R] {E:Ty} {v:Vl} {l:List α} (H:Sep X N w0 w (rl sz R E v l::D)):Sep X N w0 w (rw N0 sz R E v l::D):=by
 obtain⟨Y,⟨rb,ib,r1,_,r2,r3⟩,hN,hY,tr⟩:=H.hd;exact tr (Z:=[]) (λ_ h=>nomatch h) (B5.refl _ _) (B:=rw N0 sz R E v l) (Y1:=Y) ⟨rb,ib,r1,r2,λc hc=>.inl (r3 c hc)⟩ n0 (λc hc=>⟨.inl hc,(hY c hc).1⟩)
theorem xBo {sz:Nat} [hf:Flat R] {E:Ty} {B:Nat} {v:Vl} {l:List α} {rb ib:List Nat} (r:Row sz R E B w v l rb ib):ib=[]:=by
 obtain⟨xs,bss,ho,hl,qa,he⟩:=r.row;rw[<- qa,Du];intro bi hb;obtain⟨i,hi,rfl⟩:=Bx hb;exact hf.nil _ _ _ _ (he i _ _ (Aa (by rw[<- hl];exact hi)) (Aa hi))
theorem Sep.tl {sz:Nat} [hR:FrC sz R] [hf:Flat R] {E:Ty} {v:Vl} {l:List α} (H:Sep X N w0 w (rw N1 sz R E v l::D)):Sep X N w0 w (rl sz R E v l::D):=by
 obtain⟨Y,⟨rb,ib,r1,r2,r3⟩,hN,hY,tr⟩:=H.hd;obtain rfl:=xBo r1;exact tr (Z:=[]) (λ_ h=>nomatch h) (B5.refl _ _) (B:=rl sz R E v l) (Y1:=Y) ⟨rb,[],r1,Own.nil _ _,r2,λ_ h=>nomatch h⟩ n0 (λc hc=>⟨.inl hc,(hY c hc).1⟩)
theorem Sep.os {sz:Nat} [hR:FrC sz R] {E:Ty} {v:Vl} {l:List α} (H:Sep X N w0 w (rl sz R E v l::D)):Sep X N w0 w (ow (V:=Sl sz R) v l::D):=by
 obtain⟨Y,⟨rb,ib,r1,ho,r2,r3⟩,hN,hY,tr⟩:=H.hd;exact tr (Z:=[]) (λ_ h=>nomatch h) (B5.refl _ _) (B:=ow (V:=Sl sz R) v l) (Y1:=Y) ⟨rb++ib,r1.rd,r1.own ho,λc hc=>(Ar.1 hc).elim (r2 c) (r3 c)⟩ n0 (λc hc=>⟨.inl hc,(hY c hc).1⟩)
theorem Sep.dt {V:VR α} [hV:VF V] {v:Vl} {x:α} (H:Sep X N w0 w (A::D)) (h:∀ {Y:List Nat},A.P w Y->(∀ c∈Y,c<w.heap.size)->∃ bs,Rd V w v x bs/\Own 0 bs w/\∀ c∈bs,c∈Y):Sep X N w0 w (ow (V:=V) v x::D):=by
 obtain⟨Y,hP,hN,hY,tr⟩:=H.hd;exact tr (Z:=[]) (λ_ h=>nomatch h) (B5.refl _ _) (B:=ow (V:=V) v x) (Y1:=Y) (h hP (λc hc=>(hY c hc).1)) n0 (λc hc=>⟨.inl hc,(hY c hc).1⟩)
theorem oR1z {sz:Nat} [hR:FrC sz R] {t e:Ty} {z:Vl} {v:Vl} (ht:P.underlying t=some (.slice e)) (qa:∀ w,(sizeOf e).run P w= .ok sz w) (hz:∀ w,(zeroValue e).run P w= .ok z w) (qc:z.cells.size=sz) (hb:(Nat.blt 0 sz && Nat.ble sz 1000)=true) (F:Sk a n L) (hc:vO ops n L g d=true) (hx:ev L x=some v) (H:Sep X N w0 w D) (h:Eo N0 w sz R v y) (k:∀ a' w' v',Sep X N w0 w' (rl sz R e v' [y]::D)->Sk a' n ((d,v')::L)->wpList P ops Q rest a' w'):wpList P ops Q (⟨some d,.buildSlice t 1 #[(0,x)],ty,pos,af,g⟩::rest) a w:=by
 rw[Ba] at hb;obtain⟨bs,h2,h3⟩:=h;obtain rfl:bs=[]:=List.eq_nil_iff_forall_not_mem.2 h3;exact xOo ht qa hz qc (Ax hb.1) (Ax hb.2) F hc hx h2 (λa' w' v' rb r l F'=>k a' w' v' (Row.push H l r) F')
theorem oR1L {sz:Nat} [hR:FrC sz R] {V:VR α} [hV:VF V] {t e:Ty} {z:Vl} {v:Vl} (ht:P.underlying t=some (.slice e)) (qa:∀ w,(sizeOf e).run P w= .ok sz w) (hz:∀ w,(zeroValue e).run P w= .ok z w) (qc:z.cells.size=sz) (hb:(Nat.blt 0 sz && Nat.ble sz 1000)=true) (F:Sk a n L) (hc:vO ops n L g d=true) (hx:ev L x=some v) (H:Sep X N w0 w (ow (V:=V) v y::D)) (h:∀ {bs},Rd V w v y bs->El sz R w v y bs) (k:∀ a' w' v',Sep X N w0 w' (rl sz R e v' [y]::D)->Sk a' n ((d,v')::L)->wpList P ops Q rest a' w'):wpList P ops Q (⟨some d,.buildSlice t 1 #[(0,x)],ty,pos,af,g⟩::rest) a w:=by
 rw[Ba] at hb;obtain⟨Y,⟨bs,p1,p2,p3⟩,_,hY,tr⟩:=H.hd;refine xOo ht qa hz qc (Ax hb.1) (Ax hb.2) F hc hx (h p1) (λa' w' v' rb r l F'=>k a' w' v' (tr (Z:=[]) (λ_ h=>nomatch h) (B5.of_below l) (B:=rl sz R e v' [y]) (Y1:=Y++rb) ⟨rb,bs,r.base (Dc _),p2.go l,λc hc=>Bq _ hc,λc hc=>Bt _ (p3 c hc)⟩ n0 (λc hc=>?_)) F')
 rcases Ar.1 hc with hc | hc
 ·exact⟨.inl hc,At (hY c hc).1 l.size⟩
 ·exact⟨.inr (r.blk c hc).1,r.memR c hc⟩
theorem oPL {sz:Nat} [hR:FrC sz R] {y:Operand} {t E E':Ty} {z:Vl} {bytes:Nat} {v u:Vl} {l m r:List α} (ht:P.underlying t=some (.slice E)) (qa:(P.info? E).map (λi=>(i.zero,i.size,i.bytes))=some (some z,sz,bytes)) (qd:z.cells.size=sz) (hb:(Nat.blt 0 sz && (Nat.ble bytes 1024 && Nat.blt 0 bytes))=true)
 (F:Sk a n L) (hc:vO ops n L g d=true) (hx:ev L x=some v) (hy:ev L y=some u) (H:Sep X N w0 w (rl sz R E v l::rl sz R E' u m::D)) (qe:ap l m=some r)
 (k:∀ a' w' v',Sep X N w0 w' (rl sz R E v' r::D)->Sk a' n ((d,v')::L)->wpList P ops Q rest a' w'):wpList P ops Q (⟨some d,.call ⟨.builtin .append,#[x,y],#[t,t]⟩,ty,pos,af,g⟩::rest) a w:=by
 simp only[Ba] at hb;obtain⟨Y,⟨Y1,Y2,⟨rb,ib,r1,ro,r2,r3⟩,⟨rb2,ib2,s1,so,s2,s3⟩,dj,y1,y2⟩,hN,hY,tr⟩:=H.mg.hd;have d1:Dj rb ib2:=λc hc qc=>dj c (r2 c hc) (s3 c qc);refine xKj ht qa qd (Ax hb.1) (Ax hb.2.1) (Ax hb.2.2) F hc hx hy r1 s1.src (Dc _) d1 qe (λa' w' v' rb' q o hn F'=>k a' w' v' (tr (Z:=rb) (λc hc=>y1 c (r2 c hc)) o (B:=rl sz R E v' r) (Y1:=Y++rb') ⟨rb',ib++ib2,q,(ro.goO o r1.dj.symm).append (so.goO o d1.symm) (λc hc qc=>dj c (r3 c hc) (s3 c qc)),λc hc=>Bq _ hc,λc hc=>Bt _ ?_⟩ n0 (λc hc=>?_)) F')
 ·rcases Ar.1 hc with hc | hc
  ·exact y1 c (r3 c hc)
  ·exact y2 c (s3 c hc)
 ·rcases Ar.1 hc with hc | hc
  ·exact⟨.inl hc,At (hY c hc).1 o.size⟩
  ·exact⟨xTq (w':=w') (λc hc=>y1 c (r2 c hc)) hn hc,q.memR c hc⟩
theorem oRl {sz:Nat} [hR:FrC sz R] {iy:Operand} {t E:Ty} {v:Vl} {l:List α} {i:Int} (ht:P.underlying t=some (.slice E)) (qa:∀ w,(sizeOf E).run P w= .ok sz w) (F:Sk a n L) (hc:vO ops n L g d=true) (he:ev L x=some v) (hi:ev L iy=some (.int .i64 i)) (H:Sep X N w0 w D) (j:Nat) (hj:D[j]?=some (rl sz R E v l)) (qc:ix l i=some y) (k:∀ a' p,Bo (All w) w (Pt sz R) p y->RPt v sz i.toNat p->Sk a' n ((d,p)::L)->wpList P ops Q rest a' w):wpList P ops Q (⟨some d,.indexAddr t x iy,ty,pos,af,g⟩::rest) a w:=by
 obtain⟨Y,⟨rb,ib,r1,_,r2,r3⟩,hY,hN⟩:=H.g j hj;exact xRv ht qa F hc he hi r1 qc (λa' p bi h1 h2 hp F'=>k a' p (Bo.of h1) hp F')
theorem Sep.wk {sz:Nat} [hR:FrC sz R] {E:Ty} {v:Vl} {l:List α} (H:Sep X N w0 w (rw N0 sz R E v l::D)):Sep X N w0 w (rw N sz R E v l::D):=by
 obtain⟨Y,⟨rb,ib,r1,r2,r3⟩,hN,hY,tr⟩:=H.hd;exact tr (Z:=[]) (λ_ h=>nomatch h) (B5.refl _ _) (B:=rw N sz R E v l) (Y1:=Y) ⟨rb,ib,r1,r2,λc hc=>.inl ((r3 c hc).resolve_right id)⟩ n1 (λc hc=>⟨.inl hc,(hY c hc).1⟩)
theorem oRi {sz:Nat} [hR:FrC sz R] {iy:Operand} {t E:Ty} {v:Vl} {l:List α} {i:Int} (ht:P.underlying t=some (.slice E)) (qa:∀ w,(sizeOf E).run P w= .ok sz w) (F:Sk a n L) (hc:vO ops n L g d=true) (he:ev L x=some v) (hi:ev L iy=some (.int .i64 i)) (H:Sep X N w0 w D) (j:Nat) (hj:D[j]?=some (rw N1 sz R E v l)) (qc:ix l i=some y) (k:∀ a' p,Bo (All w) w (Pt sz R) p y->RPt v sz i.toNat p->Sk a' n ((d,p)::L)->wpList P ops Q rest a' w):wpList P ops Q (⟨some d,.indexAddr t x iy,ty,pos,af,g⟩::rest) a w:=by
 obtain⟨Y,⟨rb,ib,r1,r2,r3⟩,hY,hN⟩:=H.g j hj;exact xRv ht qa F hc he hi r1 qc (λa' p bi h1 h2 hp F'=>k a' p (Bo.of h1) hp F')
theorem oS [hR:FrC 1 R] {y:Operand} {t E:Ty} {v p u:Vl} {l l':List α} {i:Nat} {z:α} (qa:∀ w,(sizeOf t).run P w= .ok 1 w) (F:Sk a n L) (hc:gok ops L g=true) (hx:ev L x=some p) (hy:ev L y=some u) (H:Sep X N w0 w (rw N1 1 R E v l::D)) (hp:RPt v 1 i p) (hi:i<l.length) (hz:Eo N1 w 1 R u z) (hone:u.oneCell'=true) (hl:l.set i z=l') (k:∀ w',Sep X N w0 w' (rw N1 1 R E v l'::D)->wpList P ops Q rest a w'):wpList P ops Q (⟨none,.store t x y,ty,pos,af,g⟩::rest) a w:=by
 obtain⟨Y,⟨rb,ib,r1,r2,r3⟩,hN,hY,tr⟩:=H.hd;obtain⟨bs,h1,h2⟩:=hz;subst hl;refine xJy qa F hc hx hy r1 hp hi h1 hone (λc hc qc=>(hY c (r2 c hc)).2 (hN c (h2 c qc))) (λw' ib' q o hs _=>k w' (tr (Z:=rb) r2 o (B:=rw N1 1 R E v (l.set i z)) (Y1:=Y) ⟨rb,ib',q,r2,λc hc=>?_⟩ hN (λc hc=>⟨.inl hc,At (hY c hc).1 o.size⟩)))
 rcases hs c hc with h | h
 ·exact r3 c h
 ·exact .inr (h2 c h)
theorem oSc [hR:FrC 1 R] {y:Operand} {t E:Ty} {v p u:Vl} {l l':List α} {i:Nat} {z:α} (qc:∀ w,(sizeOf t).run P w= .ok 1 w)
 (F:Sk a n L) (hc:gok ops L g=true) (hx:ev L x=some p) (hy:ev L y=some u) (H:Sep X N w0 w (rw N1 1 R E v l::A::D)) (hp:RPt v 1 i p) (hi:i<l.length) (hA:∀ c,A.N c->N1 c) (hz:∀ {N':Nat->Prop},(∀ c,N1 c->N' c)->Rdg N' w A->Eo N' w 1 R u z) (hone:u.oneCell'=true) (hl:l.set i z=l')
 (k:∀ w',Sep X N w0 w' (rw N1 1 R E v l'::D)->wpList P ops Q rest a w'):wpList P ops Q (⟨none,.store t x y,ty,pos,af,g⟩::rest) a w:=by
 obtain⟨Y,⟨Y1,Y2,⟨rb,ib,r1,r2,r3⟩,hP,dj,y1,y2⟩,hN,hY,tr⟩:=H.mg.hd;have qa:∀ c,N1 c->N c:=λc hc=>hN c (.inl hc);obtain⟨bs,h1,h2⟩:=hz (N':=λc=>c∈Y2∨N1 c) (λc hc=>.inr hc) ⟨Y2,hP,λc hc=>.inl hc,λc hc=>.inr (hA c hc)⟩;subst hl;refine xJy qc F hc hx hy r1 hp hi h1 hone (λc hc qd=>?_) (λw' ib' q o hs _=>k w' (tr (Z:=rb) (λc hc=>y1 c (r2 c hc)) o (B:=rw N1 1 R E v (l.set i z)) (Y1:=Y) ⟨rb,ib',q,λc hc=>y1 c (r2 c hc),λc hc=>?_⟩ qa (λc hc=>⟨.inl hc,At (hY c hc).1 o.size⟩)))
 ·rcases h2 c qd with h | h
  ·exact dj c (r2 c hc) h
  ·exact(hY c (y1 c (r2 c hc))).2 (qa c h)
 ·rcases hs c hc with h | h
  ·exact(r3 c h).imp (y1 c) id
  ·exact(h2 c h).imp (y2 c) id
theorem oT {sz:Nat} [hR:FrC sz R] {hi:Operand} {t E:Ty} {v:Vl} {l r:List α} {j:Int} (ht:P.underlying t=some (.slice E)) (qa:∀ w,(sizeOf E).run P w= .ok sz w) (F:Sk a n L) (hc:vO ops n L g d=true) (hx:ev L x=some v) (qc:ev L hi=some (.int .i64 j)) (H:Sep X N w0 w (rw N1 sz R E v l::D)) (hs:sl l 0 j=some r) (k:∀ a' v',Sep X N w0 w (rw N1 sz R E v' r::D)->Sk a' n ((d,v')::L)->wpList P ops Q rest a' w):wpList P ops Q (⟨some d,.slice t x none (some hi) none,ty,pos,af,g⟩::rest) a w:=by
 obtain⟨Y,⟨rb,ib,r1,r2,r3⟩,hN,hY,tr⟩:=H.hd;exact oBu ht qa F hc hx qc r1 hs (λa' v' ib' q hs F'=>k a' v' (tr (Z:=[]) (λ_ h=>nomatch h) (B5.refl _ _) (B:=rw N1 sz R E v' r) (Y1:=Y) ⟨rb,ib',q,r2,λc hc=>r3 c (hs.subset hc)⟩ hN (λc hc=>⟨.inl hc,(hY c hc).1⟩)) F')
def Gv (Φ:Vl->Wd->Prop) (e:Ending) (w':Wd):Prop:=∃ v,e= .returned v/\Φ v w'
theorem oG {f:FuncId} {xs:List Operand} {at':Array Ty} {vs:List Vl} {Φ:Vl->Wd->Prop} (F:Sk a n L) (hc:vO ops n L g d=true) (hf:∀ args w,(callFunc f args).run P w= .ok (.enter f args) w) (e:evs L xs=some vs) (cl:Calls P f vs.toArray w (Gv Φ)) (k:∀ a' v w',Φ v w'->Sk a' n ((d,v)::L)->wpList P ops Q rest a' w'):wpList P ops Q (⟨some d,.call ⟨.value (.func f),xs.toArray,at'⟩,ty,pos,af,g⟩::rest) a w:= xZq (Φ:=Φ) F hc hf e cl (λe w' h=>h) k
theorem oGV {c:Operand} {f:FuncId} {lb:List Vl} {xs:List Operand} {at':Array Ty} {vs:List Vl} {Φ:Vl->Wd->Prop} (F:Sk a n L) (hc:vO ops n L g d=true) (qa:ev L c=some (.func (.func f) #[] lb.toArray)) (hf:∀ args w,(callFunc f args).run P w= .ok (.enter f args) w) (e:evs L xs=some vs) (cl:Calls P f (vs++lb).toArray w (Gv Φ)) (k:∀ a' v w',Φ v w'->Sk a' n ((d,v)::L)->wpList P ops Q rest a' w'):wpList P ops Q (⟨some d,.call ⟨.value c,xs.toArray,at'⟩,ty,pos,af,g⟩::rest) a w:= oEw (Φ:=Φ) F hc qa hf e cl (λe w' h=>h) k
theorem xD {Q:Exit->Act->Wd->Prop} {id:Nat} {l:List Oper} (H:Sep X N w0 w D) (hm:P.follows .mixedOrders=true)
 (h:∀ w',Sep X N w0 w' D->zB P l.toArray (λa w=>Q .normal a w) (Sm N) l.length (Array.replicate l.length false) a w'):(Code.region id l.toArray true).wp P Q a w:=by
 refine wp_region_any hm ?_;have:=xCz (Q:=Q) (λ_ _ h=>h) _ _ _ _ (h w.drew H.drew);rw[<- Ew] at this;exact this
theorem Sep.k {X':List Nat} {D':List As} {w':Wd} (H:Sep X N w0 w D) (H':Sep X' N w0 w' D'):Sm N w w':=⟨λc hc=>(H'.sm.blk c hc).trans (H.sm.blk c hc).symm⟩
theorem xE {Nn:Act->Wd->Prop} {f:Nat} {listed:Array Bool} (H:Sep X N w0 w D) (i:Nat) {oi:Oper} (hi:ops[i]?=some oi) (hr:Region.ready .any ops listed=[i]) (h:wpList P ops (Exit.then (λa' w'=>(∃ D',Sep X N w0 w' D')/\zB P ops Nn (Sm N) f (listed.setIfInBounds i true) a' w') QF) [oi] a w):zB P ops Nn (Sm N) (f+1) listed a w:= b_e i hi hr (rX (λe a w q=>by
 cases e<;>first | exact q | (obtain⟨⟨D',H'⟩,q⟩:=q;exact⟨.inl (H.k H'),q⟩)) h)
theorem xEs {R:Act->Wd->Prop} {Fn:Prop} {l:List Oper} (H:Sep X N w0 w D) (h:wpList P ops (Exit.then (λa' w'=>(∃ D',Sep X N w0 w' D')/\R a' w') QF) l a w):wpList P ops (Exit.then (λa' w'=>(Sm N w w'∨Fn)/\R a' w') QF) l a w:= rX (λe a w q=>by
 cases e<;>first | exact q | (obtain⟨⟨D',H'⟩,q⟩:=q;exact⟨.inl (H.k H'),q⟩)) h
theorem wI {C:Wd->Prop} {K K':Act->Prop} (hK:∀ a,K a->K' a):∀ {l:List Oper} {a:Act},wpQuiet P ops C K l a->wpQuiet P ops C K' l a
 | [],a,h=>hK a h
 | o::r,a,h=>by
  unfold wpQuiet at h ⊢
  split
  ·rename_i hw
   rw[if_pos hw] at h;obtain⟨v,h1,h2⟩:=h;exact⟨v,h1,wI hK h2⟩
  ·rename_i hw
   rw[if_neg hw] at h;exact wI hK h
theorem xQ {Q:Exit->Act->Wd->Prop} {id:Nat} {l:List Oper} (H:Sep X N w0 w D) (hm:P.follows .mixedOrders=true) (qa:Region.lexB .any l.toArray=true) (h:wpQuiet P l.toArray (λw'=>Below w.heap.size w w') (λa'=>∀ w',Sep X N w0 w' D->Q .normal a' w') l a):(Code.region id l.toArray true).wp P Q a w:= oHw hm qa (wI (λa' h w' l=>h w' (H.go l)) h)
theorem xDa {Q:Exit->Act->World->Prop} {id:Nat} {l:List Oper} (H:Sep X N w0 w D) (h:∀ w',Sep X N w0 w' D->zB P l.toArray (λa w=>Q .normal a w) (Sm N) l.length (Array.replicate l.length false) a w') (hm:P.follows .mixedOrders=true:=by kernel_rfl):(Code.region id l.toArray true).wp P Q a w:=xD H hm h
theorem xEa {Nn:Act->World->Prop} {f:Nat} {listed:Array Bool} (H:Sep X N w0 w D) (i:Nat) {oi:Oper} (hi:ops[i]?=some oi) (h:wpList P ops (Exit.then (λa' w'=>(∃ D',Sep X N w0 w' D')/\zB P ops Nn (Sm N) f (listed.setIfInBounds i true) a' w') QF) [oi] a w) (hr:Region.ready .any ops listed=[i]:=by kernel_rfl):zB P ops Nn (Sm N) (f+1) listed a w:=xE H i hi hr h
theorem xQa {Q:Exit->Act->World->Prop} {id:Nat} {l:List Oper} (H:Sep X N w0 w D) (h:wpQuiet P l.toArray (λw'=>Below w.heap.size w w') (λa'=>∀ w',Sep X N w0 w' D->Q .normal a' w') l a) (hm:P.follows .mixedOrders=true:=by kernel_rfl) (qa:Region.lexB .any l.toArray=true:=by kernel_rfl):(Code.region id l.toArray true).wp P Q a w:=xQ H hm qa h
end
end
section
open Go.RowKit
variable {N:Nat->Prop} {v1:Vl} {T:Ty} {v2:Vl} {w0:Wd} {D:List As} {X:List Nat} {v0:Vl} {E1:Ty} {E0:Ty}
theorem c1I {w:Wd} {b:Nat} {x:Int} (K:Bk N w b [.int .i64 x] T) (h:xL x):Bo N w (Pt 1 xF) (.pointer (some ⟨b,0,none⟩)) x:=⟨_,oGg K.1 h,λc hc=>by rw[Bd] at hc;subst hc;exact K.2⟩
theorem c1S {α:Type} {sz:Nat} {R:ER α} {w:Wd} {b:Nat} {v:Vl} {x:List α} (K:Bk N w b [v] T) (h:Bo N w (Sl sz R) v x):Bo N w (Pt 1 (kP sz R)) (.pointer (some ⟨b,0,none⟩)) x:=let ⟨_,h1,h2⟩:=h;⟨_,oHb K.1 h1,λc hc=>by
 rcases Av.1 hc with rfl | hc
 ·exact K.2
 ·exact h2 c hc⟩
theorem Bo.one {α:Type} {sz:Nat} {R:ER α} {w:Wd} {v:Vl} {x:List α} (h:Bo N w (Sl sz R) v x):v.oneCell'=true:=let ⟨_,h1,_⟩:=h;h1.r.one
theorem Bo.pone {α:Type} {sz:Nat} {R:ER α} {w:Wd} {v:Vl} {x:α} (h:Bo N w (Pt sz R) v x):v.oneCell'=true:=by
 obtain⟨_,⟨⟨b,o,bi,rfl,_⟩,_⟩,_⟩:=h
 rfl
theorem oQ.o {w:Wd} {v:Vl} {x:Rel} (h:Bo N w (qS 2 oQ) v x):∃ v1:Vl,v= .agg #[.int .i64 x.arity,v1]/\xL x.arity/\Bo N w (Sl 1 wC) v1 x.tuples:=by
 obtain⟨bs,h1,h2⟩:=h;obtain⟨v1,b1,e,k0,k1,eb⟩:=oQ.rd h1;exact⟨v1,e,k0,⟨b1,k1,λc hc=>h2 c (by rw[eb];simp [hc])⟩⟩
theorem oQ.m {w:Wd} {f0:Int} {f1:List (List Int)} (h0:xL f0) (h1:Bo N w (Sl 1 wC) v1 f1):Bo N w (qS 2 oQ) (.agg #[.int .i64 f0,v1]) (Rel.mk f0 f1):=by
 obtain⟨b1,k1,m1⟩:=h1;exact⟨_,oQ.mk2 h0 k1,m1⟩
theorem oQ.w {w:Wd} {f0:Int} {f1:List (List Int)} (h0:xL f0) (H:Sep X N w0 w (rl 1 wC E1 v1 f1::D)):Sep X N w0 w (ow (V:=qS 2 oQ) (.agg #[.int .i64 f0,v1]) (Rel.mk f0 f1)::D):= H.dt (λ{Y} hP hm=>by
 obtain⟨b1,c1,r1,o1,x1,y1⟩:=hP
 exact⟨_,oQ.mk2 h0 r1.rd,(r1.own o1),(λc hc=>(Ar.1 hc).elim (x1 c) (y1 c))⟩)
theorem xB.o {w:Wd} {v:Vl} {x:A6} (h:Bo N w (qS 2 xB) v x):∃ v1:Vl,v= .agg #[.int .i64 x.size,v1]/\xL x.size/\Bo N w (Sl 2 oQ) v1 x.rels:=by
 obtain⟨bs,h1,h2⟩:=h;obtain⟨v1,b1,e,k0,k1,eb⟩:=xB.rd h1;exact⟨v1,e,k0,⟨b1,k1,λc hc=>h2 c (by rw[eb];simp [hc])⟩⟩
theorem xB.m {w:Wd} {f0:Int} {f1:List Rel} (h0:xL f0) (h1:Bo N w (Sl 2 oQ) v1 f1):Bo N w (qS 2 xB) (.agg #[.int .i64 f0,v1]) (A6.mk f0 f1):=by
 obtain⟨b1,k1,m1⟩:=h1;exact⟨_,xB.mk2 h0 k1,m1⟩
theorem xB.b {w:Wd} {b:Nat} {f0:Int} {f1:List Rel} (K:Bk N w b [.int .i64 f0,v1] T) (h0:xL f0) (h1:Bo N w (Sl 2 oQ) v1 f1):Bo N w (Pt 2 xB) (.pointer (some ⟨b,0,none⟩)) (A6.mk f0 f1):=by
 obtain⟨b1,k1,m1⟩:=h1;refine⟨_,xB.blk K.1 h0 k1,λc hc=>?_⟩
 rcases Av.1 hc with rfl | hc
 ·exact K.2
 ·exact(m1) c hc
theorem vU.o {w:Wd} {v:Vl} {x:Op} (h:Bo N w (qS 2 vU) v x):∃ v1:Vl,v= .agg #[.int .i64 x.arity,v1]/\xL x.arity/\Bo N w (Sl 1 xF) v1 x.table:=by
 obtain⟨bs,h1,h2⟩:=h;obtain⟨v1,b1,e,k0,k1,eb⟩:=vU.rd h1;exact⟨v1,e,k0,⟨b1,k1,λc hc=>h2 c (by rw[eb];simp [hc])⟩⟩
theorem vU.m {w:Wd} {f0:Int} {f1:List Int} (h0:xL f0) (h1:Bo N w (Sl 1 xF) v1 f1):Bo N w (qS 2 vU) (.agg #[.int .i64 f0,v1]) (Op.mk f0 f1):=by
 obtain⟨b1,k1,m1⟩:=h1;exact⟨_,vU.mk2 h0 k1,m1⟩
theorem vU.b {w:Wd} {b:Nat} {f0:Int} {f1:List Int} (K:Bk N w b [.int .i64 f0,v1] T) (h0:xL f0) (h1:Bo N w (Sl 1 xF) v1 f1):Bo N w (Pt 2 vU) (.pointer (some ⟨b,0,none⟩)) (Op.mk f0 f1):=by
 obtain⟨b1,k1,m1⟩:=h1;refine⟨_,vU.blk K.1 h0 k1,λc hc=>?_⟩
 rcases Av.1 hc with rfl | hc
 ·exact K.2
 ·exact(m1) c hc
theorem vS.o {w:Wd} {v:Vl} {x:Con} (h:Bo N w (qS 2 vS) v x):∃ v1:Vl,v= .agg #[.int .i64 x.rel,v1]/\xL x.rel/\Bo N w (Sl 1 xF) v1 x.scope:=by
 obtain⟨bs,h1,h2⟩:=h;obtain⟨v1,b1,e,k0,k1,eb⟩:=vS.rd h1;exact⟨v1,e,k0,⟨b1,k1,λc hc=>h2 c (by rw[eb];simp [hc])⟩⟩
theorem vS.m {w:Wd} {f0:Int} {f1:List Int} (h0:xL f0) (h1:Bo N w (Sl 1 xF) v1 f1):Bo N w (qS 2 vS) (.agg #[.int .i64 f0,v1]) (Con.mk f0 f1):=by
 obtain⟨b1,k1,m1⟩:=h1;exact⟨_,vS.mk2 h0 k1,m1⟩
theorem vS.b {w:Wd} {b:Nat} {f0:Int} {f1:List Int} (K:Bk N w b [.int .i64 f0,v1] T) (h0:xL f0) (h1:Bo N w (Sl 1 xF) v1 f1):Bo N w (Pt 2 vS) (.pointer (some ⟨b,0,none⟩)) (Con.mk f0 f1):=by
 obtain⟨b1,k1,m1⟩:=h1;refine⟨_,vS.blk K.1 h0 k1,λc hc=>?_⟩
 rcases Av.1 hc with rfl | hc
 ·exact K.2
 ·exact(m1) c hc
theorem xH.o {w:Wd} {v:Vl} {x:A7} (h:Bo N w (qS 2 xH) v x):∃ v1:Vl,v= .agg #[.int .i64 x.vars,v1]/\xL x.vars/\Bo N w (Sl 2 vS) v1 x.cons:=by
 obtain⟨bs,h1,h2⟩:=h;obtain⟨v1,b1,e,k0,k1,eb⟩:=xH.rd h1;exact⟨v1,e,k0,⟨b1,k1,λc hc=>h2 c (by rw[eb];simp [hc])⟩⟩
theorem xH.m {w:Wd} {f0:Int} {f1:List Con} (h0:xL f0) (h1:Bo N w (Sl 2 vS) v1 f1):Bo N w (qS 2 xH) (.agg #[.int .i64 f0,v1]) (A7.mk f0 f1):=by
 obtain⟨b1,k1,m1⟩:=h1;exact⟨_,xH.mk2 h0 k1,m1⟩
theorem xH.b {w:Wd} {b:Nat} {f0:Int} {f1:List Con} (K:Bk N w b [.int .i64 f0,v1] T) (h0:xL f0) (h1:Bo N w (Sl 2 vS) v1 f1):Bo N w (Pt 2 xH) (.pointer (some ⟨b,0,none⟩)) (A7.mk f0 f1):=by
 obtain⟨b1,k1,m1⟩:=h1;refine⟨_,xH.blk K.1 h0 k1,λc hc=>?_⟩
 rcases Av.1 hc with rfl | hc
 ·exact K.2
 ·exact(m1) c hc
theorem oD.m {w:Wd} {f0:Int} {f1:Int} {f2:Int}  (h0:xL f0) (h1:xL f1) (h2:xL f2):Bo N w (qS 3 oD) (.agg #[.int .i64 f0,.int .i64 f1,.int .i64 f2]) (B3.mk f0 f1 f2):=by
 exact⟨_,oD.mk2 h0 h1 h2,λc hc=>nomatch hc⟩
theorem xP.o {w:Wd} {v:Vl} {x:B2} (h:Bo N w (qS 3 xP) v x):v= .agg #[.int .i64 x.i,.int .i64 x.j,.int .i64 x.through]/\xL x.i/\xL x.j/\xL x.through:=by
 obtain⟨bs,h1,h2⟩:=h;obtain⟨e,k0,k1,k2,eb⟩:=xP.rd h1;exact⟨e,k0,k1,k2⟩
theorem xP.m {w:Wd} {f0:Int} {f1:Int} {f2:Int}  (h0:xL f0) (h1:xL f1) (h2:xL f2):Bo N w (qS 3 xP) (.agg #[.int .i64 f0,.int .i64 f1,.int .i64 f2]) (B2.mk f0 f1 f2):=by
 exact⟨_,xP.mk2 h0 h1 h2,λc hc=>nomatch hc⟩
theorem xP.b {w:Wd} {b:Nat} {f0:Int} {f1:Int} {f2:Int}  (K:Bk N w b [.int .i64 f0,.int .i64 f1,.int .i64 f2] T) (h0:xL f0) (h1:xL f1) (h2:xL f2):Bo N w (Pt 3 xP) (.pointer (some ⟨b,0,none⟩)) (B2.mk f0 f1 f2):=by
 refine⟨_,xP.blk K.1 h0 h1 h2,λc hc=>?_⟩
 rcases Av.1 hc with rfl | hc
 ·exact K.2
 ·exact(λc hc=>nomatch hc) c hc
theorem kM.m {w:Wd} {f0:Int} {f1:List Int} {f2:List B3} {f3:List B2} {f4:List Int} {v3:Vl} {v4:Vl} (h0:xL f0) (h1:Bo N w (Sl 1 xF) v1 f1) (h2:Bo N w (Sl 3 oD) v2 f2) (h3:Bo N w (Sl 3 xP) v3 f3) (h4:Bo N w (Sl 1 xF) v4 f4):Bo N w (qS 5 kM) (.agg #[.int .i64 f0,v1,v2,v3,v4]) (B0.mk f0 f1 f2 f3 f4):=by
 obtain⟨b1,k1,m1⟩:=h1;obtain⟨b2,k2,m2⟩:=h2;obtain⟨b3,k3,m3⟩:=h3;obtain⟨b4,k4,m4⟩:=h4;exact⟨_,kM.mk2 h0 k1 k2 k3 k4,(λc hc=>(Ar.1 hc).elim ((λc hc=>(Ar.1 hc).elim ((λc hc=>(Ar.1 hc).elim (m1 c) (m2 c)) c) (m3 c)) c) (m4 c))⟩
theorem xJ.o {w:Wd} {v:Vl} {x:A8} (h:Bo N w (qS 2 xJ) v x):∃ v0:Vl,v= .agg #[v0,.int .i64 x.right]/\Bo N w (Sl 1 xF) v0 x.left/\xL x.right:=by
 obtain⟨bs,h1,h2⟩:=h;obtain⟨v0,b0,e,k0,k1,eb⟩:=xJ.rd h1;exact⟨v0,e,⟨b0,k0,λc hc=>h2 c (by rw[eb];simp [hc])⟩,k1⟩
theorem xJ.m {w:Wd} {f0:List Int} {f1:Int} (h0:Bo N w (Sl 1 xF) v0 f0) (h1:xL f1):Bo N w (qS 2 xJ) (.agg #[v0,.int .i64 f1]) (A8.mk f0 f1):=by
 obtain⟨b0,k0,m0⟩:=h0;exact⟨_,xJ.mk2 k0 h1,m0⟩
theorem xJ.b {w:Wd} {b:Nat} {f0:List Int} {f1:Int} (K:Bk N w b [v0,.int .i64 f1] T) (h0:Bo N w (Sl 1 xF) v0 f0) (h1:xL f1):Bo N w (Pt 2 xJ) (.pointer (some ⟨b,0,none⟩)) (A8.mk f0 f1):=by
 obtain⟨b0,k0,m0⟩:=h0;refine⟨_,xJ.blk K.1 k0 h1,λc hc=>?_⟩
 rcases Av.1 hc with rfl | hc
 ·exact K.2
 ·exact(m0) c hc
theorem xJ.w {w:Wd} {f0:List Int} {f1:Int} (h1:xL f1) (H:Sep X N w0 w (rl 1 xF E0 v0 f0::D)):Sep X N w0 w (ow (V:=qS 2 xJ) (.agg #[v0,.int .i64 f1]) (A8.mk f0 f1)::D):= H.dt (λ{Y} hP hm=>by
 obtain⟨b0,c0,r0,o0,x0,y0⟩:=hP
 exact⟨_,xJ.mk2 r0.rd h1,(r0.own o0),(λc hc=>(Ar.1 hc).elim (x0 c) (y0 c))⟩)
theorem vP.o {w:Wd} {v:Vl} {x:B6} (h:Bo N w (qS 4 vP) v x):∃ v1 v2:Vl,v= .agg #[.int .i64 x.template.size,v1,v2,.int .i64 x.clerks]/\xL x.template.size/\Bo N w (Sl 2 oQ) v1 x.template.rels/\Bo N w (Sl 2 xH) v2 x.jobs/\xL x.clerks:=by
 obtain⟨bs,h1,h2⟩:=h;obtain⟨v1,v2,b1,b2,e,k0,k1,k2,k3,eb⟩:=vP.rd h1;exact⟨v1,v2,e,k0,⟨b1,k1,λc hc=>h2 c (by rw[eb];simp [hc])⟩,⟨b2,k2,λc hc=>h2 c (by rw[eb];simp [hc])⟩,k3⟩
theorem vP.m {w:Wd} {f0:Int} {f1:List Rel} {f2:List A7} {f3:Int} (h0:xL f0) (h1:Bo N w (Sl 2 oQ) v1 f1) (h2:Bo N w (Sl 2 xH) v2 f2) (h3:xL f3):Bo N w (qS 4 vP) (.agg #[.int .i64 f0,v1,v2,.int .i64 f3]) (B6.mk (A6.mk f0 f1) f2 f3):=by
 obtain⟨b1,k1,m1⟩:=h1;obtain⟨b2,k2,m2⟩:=h2;exact⟨_,vP.mk2 h0 k1 k2 h3,(λc hc=>(Ar.1 hc).elim (m1 c) (m2 c))⟩
theorem vP.b {w:Wd} {b:Nat} {f0:Int} {f1:List Rel} {f2:List A7} {f3:Int} (K:Bk N w b [.int .i64 f0,v1,v2,.int .i64 f3] T) (h0:xL f0) (h1:Bo N w (Sl 2 oQ) v1 f1) (h2:Bo N w (Sl 2 xH) v2 f2) (h3:xL f3):Bo N w (Pt 4 vP) (.pointer (some ⟨b,0,none⟩)) (B6.mk (A6.mk f0 f1) f2 f3):=by
 obtain⟨b1,k1,m1⟩:=h1;obtain⟨b2,k2,m2⟩:=h2;refine⟨_,vP.blk K.1 h0 k1 k2 h3,λc hc=>?_⟩
 rcases Av.1 hc with rfl | hc
 ·exact K.2
 ·exact((λc hc=>(Ar.1 hc).elim (m1 c) (m2 c))) c hc
theorem kQ.b {w:Wd} {b:Nat} {f0:Int} {f1:Int} {f2:List Bool} (K:Bk N w b [.int .i64 f0,.int .i64 f1,v2] T) (h0:xL f0) (h1:xL f1) (h2:Bo N w (Sl 1 aC) v2 f2):Bo N w (Pt 3 kQ) (.pointer (some ⟨b,0,none⟩)) (B7.mk f0 f1 f2):=by
 obtain⟨b2,k2,m2⟩:=h2;refine⟨_,kQ.blk K.1 h0 h1 k2,λc hc=>?_⟩
 rcases Av.1 hc with rfl | hc
 ·exact K.2
 ·exact(m2) c hc
theorem oR.o {w:Wd} {v:Vl} {x:B1} (h:Bo N w (qS 3 oR) v x):∃ v2:Vl,v= .agg #[.int .i64 x.prime,.int .i64 x.unknowns,v2]/\xL x.prime/\xL x.unknowns/\Bo N w (Sl 2 xJ) v2 x.list:=by
 obtain⟨bs,h1,h2⟩:=h;obtain⟨v2,b2,e,k0,k1,k2,eb⟩:=oR.rd h1;exact⟨v2,e,k0,k1,⟨b2,k2,λc hc=>h2 c (by rw[eb];simp [hc])⟩⟩
theorem oR.m {w:Wd} {f0:Int} {f1:Int} {f2:List A8} (h0:xL f0) (h1:xL f1) (h2:Bo N w (Sl 2 xJ) v2 f2):Bo N w (qS 3 oR) (.agg #[.int .i64 f0,.int .i64 f1,v2]) (B1.mk f0 f1 f2):=by
 obtain⟨b2,k2,m2⟩:=h2;exact⟨_,oR.mk2 h0 h1 k2,m2⟩
theorem oR.b {w:Wd} {b:Nat} {f0:Int} {f1:Int} {f2:List A8} (K:Bk N w b [.int .i64 f0,.int .i64 f1,v2] T) (h0:xL f0) (h1:xL f1) (h2:Bo N w (Sl 2 xJ) v2 f2):Bo N w (Pt 3 oR) (.pointer (some ⟨b,0,none⟩)) (B1.mk f0 f1 f2):=by
 obtain⟨b2,k2,m2⟩:=h2;refine⟨_,oR.blk K.1 h0 h1 k2,λc hc=>?_⟩
 rcases Av.1 hc with rfl | hc
 ·exact K.2
 ·exact(m2) c hc
theorem zP.o {w:Wd} {v:Vl} {x:rowT} (h:Bo N w (qS 2 zP) v x):∃ v0 v1:Vl,v= .agg #[v0,v1]/\Bo N w (Sl 1 xF) v0 x.numbers/\Bo N w (Sl 1 xF) v1 x.bys:=by
 obtain⟨bs,h1,h2⟩:=h;obtain⟨v0,v1,b0,b1,e,k0,k1,eb⟩:=zP.rd h1;exact⟨v0,v1,e,⟨b0,k0,λc hc=>h2 c (by rw[eb];simp [hc])⟩,⟨b1,k1,λc hc=>h2 c (by rw[eb];simp [hc])⟩⟩
theorem zP.m {w:Wd} {f0:List Int} {f1:List Int} (h0:Bo N w (Sl 1 xF) v0 f0) (h1:Bo N w (Sl 1 xF) v1 f1):Bo N w (qS 2 zP) (.agg #[v0,v1]) (rowT.mk f0 f1):=by
 obtain⟨b0,k0,m0⟩:=h0;obtain⟨b1,k1,m1⟩:=h1;exact⟨_,zP.mk2 k0 k1,(λc hc=>(Ar.1 hc).elim (m0 c) (m1 c))⟩
theorem zP.w {w:Wd} {f0:List Int} {f1:List Int}  (H:Sep X N w0 w (rl 1 xF E0 v0 f0::rl 1 xF E1 v1 f1::D)):Sep X N w0 w (ow (V:=qS 2 zP) (.agg #[v0,v1]) (rowT.mk f0 f1)::D):= H.mg.dt (λ{Y} hP hm=>by
 obtain⟨Y1a,Y1b,⟨b0,c0,r0,o0,x0,y0⟩,⟨b1,c1,r1,o1,x1,y1⟩,d1,z1a,z1b⟩:=hP
 exact⟨_,zP.mk2 r0.rd r1.rd,((r0.own o0).append (r1.own o1) (λc h1 h2=>d1 c ((λc hc=>(Ar.1 hc).elim (x0 c) (y0 c)) c h1) ((λc hc=>(Ar.1 hc).elim (x1 c) (y1 c)) c h2))),(λc hc=>(Ar.1 hc).elim (λh=>z1a c ((λc hc=>(Ar.1 hc).elim (x0 c) (y0 c)) c h)) (λh=>z1b c ((λc hc=>(Ar.1 hc).elim (x1 c) (y1 c)) c h)))⟩)
theorem qC.w {w:Wd} {f0:List Int} {f1:Int} {f2:List Int} {E2:Ty} (h1:xL f1) (H:Sep X N w0 w (rl 1 xF E0 v0 f0::rl 1 xF E2 v2 f2::D)):Sep X N w0 w (ow (V:=qS 3 qC) (.agg #[v0,.int .i64 f1,v2]) (A9.mk f0 f1 f2)::D):= H.mg.dt (λ{Y} hP hm=>by
 obtain⟨Y2a,Y2b,⟨b0,c0,r0,o0,x0,y0⟩,⟨b2,c2,r2,o2,x2,y2⟩,d2,z2a,z2b⟩:=hP
 exact⟨_,qC.mk2 r0.rd h1 r2.rd,((r0.own o0).append (r2.own o2) (λc h1 h2=>d2 c ((λc hc=>(Ar.1 hc).elim (x0 c) (y0 c)) c h1) ((λc hc=>(Ar.1 hc).elim (x2 c) (y2 c)) c h2))),(λc hc=>(Ar.1 hc).elim (λh=>z2a c ((λc hc=>(Ar.1 hc).elim (x0 c) (y0 c)) c h)) (λh=>z2b c ((λc hc=>(Ar.1 hc).elim (x2 c) (y2 c)) c h)))⟩)
theorem kE.o {w:Wd} {v:Vl} {x:lookT} (h:Bo N w (qS 2 kE) v x):∃ v1:Vl,v= .agg #[.int .i64 x.rel,v1]/\xL x.rel/\Bo N w (Sl 1 xF) v1 x.cells:=by
 obtain⟨bs,h1,h2⟩:=h;obtain⟨v1,b1,e,k0,k1,eb⟩:=kE.rd h1;exact⟨v1,e,k0,⟨b1,k1,λc hc=>h2 c (by rw[eb];simp [hc])⟩⟩
theorem kE.w {w:Wd} {f0:Int} {f1:List Int} (h0:xL f0) (H:Sep X N w0 w (rl 1 xF E1 v1 f1::D)):Sep X N w0 w (ow (V:=qS 2 kE) (.agg #[.int .i64 f0,v1]) (lookT.mk f0 f1)::D):= H.dt (λ{Y} hP hm=>by
 obtain⟨b1,c1,r1,o1,x1,y1⟩:=hP
 exact⟨_,kE.mk2 h0 r1.rd,(r1.own o1),(λc hc=>(Ar.1 hc).elim (x1 c) (y1 c))⟩)
theorem qY.w {w:Wd} {f0:Int} {f1:List Int} (h0:xL f0) (H:Sep X N w0 w (rl 1 xF E1 v1 f1::D)):Sep X N w0 w (ow (V:=qS 2 qY) (.agg #[.int .i64 f0,v1]) (B4.mk f0 f1)::D):= H.dt (λ{Y} hP hm=>by
 obtain⟨b1,c1,r1,o1,x1,y1⟩:=hP
 exact⟨_,qY.mk2 h0 r1.rd,(r1.own o1),(λc hc=>(Ar.1 hc).elim (x1 c) (y1 c))⟩)
end
section
open Go.RowKit
variable {x:Operand} {α:Type} {R:ER α} {y:α}
theorem Sep.q {X:List Nat} {N:Nat->Prop} {w0 w:Wd} {D:List As} (H:Sep X N w0 w D):∀ w',Below w.heap.size w w'->Sm N w0 w':=λ_ l=>(H.go l).sm
theorem Sep.v {X:List Nat} {N:Nat->Prop} {w0 w:Wd} {D:List As} (H:Sep X N w0 w D):∀ w',Sm N w w'->Sm N w0 w':=λ_ s=>H.sm.trans s
theorem Sep.qb {X:List Nat} {N:Nat->Prop} {w0 w:Wd} {D:List As} {b:Nat} {cs:List Vl} {T:Ty} (H:Sep X N w0 w D) (i:Nat) (hi:D[i]?=some (bx b cs T)):∀ w',Below w.heap.size w w'->nA w' b cs.toArray T:=λ_ l=>(H.go l).b i hi
theorem Bk.v {N:Nat->Prop} {w1 w:Wd} {b:Nat} {cs:List Vl} {T:Ty} (h:Bk N w1 b cs T) (s:Sm N w1 w):∀ w',Sm N w w'->nA w' b cs.toArray T:=λ_ l=>((s.trans l).blk b h.2).trans h.1
theorem Bk.o {N:Nat->Prop} {w1 w:Wd} {b:Nat} {cs:List Vl} {T:Ty} (h:Bk N w1 b cs T) (s:Sm N w1 w):nA w b cs.toArray T:=(s.blk b h.2).trans h.1
theorem Bo.w {V:VR α} [VF V] {w w':Wd} {v:Vl} {x:α} (h:Bo (All w) w V v x) (l:Below w.heap.size w w'):Bo (All w') w' V v x:=(h.to (Sm.all l)).all
theorem aA {w:Wd}:∀ c,All w c->c<w.heap.size:=λ_ h=>h
section
variable {P:Program} {ops:Array Oper} {C:Wd->Prop} {K:Act->Prop} {a:Act} {w w0 w1:Wd} {n:Nat} {L:List (Nat×Vl)} {rest:List Oper} {d:Nat} {ty:Ty} {pos:String} {af:Array Edge} {g:Option (Nat×Bool)} {M N:Nat->Prop} {X:List Nat} {D:List As}
theorem qI {sz:Nat} {iy:Operand} {t:Ty} {v:Vl} {l:List α} {e:Ty} {i:Int} (ht:P.underlying t=some (.slice e)) (qa:∀ w,(sizeOf e).run P w= .ok sz w)
 (F:Sk a n L) (hc:vO ops n L g d=true) (he:ev L x=some v) (hi:ev L iy=some (.int .i64 i)) (h:Bo M w1 (Sl sz R) v l) (qc:ix l i=some y)
 (k:∀ a' p,Bo M w1 (Pt sz R) p y->Sk a' n ((d,p)::L)->wpQuiet P ops C K rest a'):wpQuiet P ops C K (⟨some d,.indexAddr t x iy,ty,pos,af,g⟩::rest) a:=
 let ⟨p,hr,hp⟩:=xPp ht qa F he hi h qc;pH F hc (λw' _=>hr w') (λa' F'=>k a' p hp F')
theorem qF {β:Type} {sz s':Nat} {R':ER β} {t:Ty} {kk:Nat} {p:Vl} {z:β} {off:Nat} (hp:∀ (a:Addr) w,(Instr.fieldAt t (.pointer (some a)) kk).run P w= .ok (.pointer (some (a.add off))) w)
 (F:Sk a n L) (hc:vO ops n L g d=true) (he:ev L x=some p) (h:Bo M w1 (Pt sz R) p y) (hf:∀ f bi,R w1 f y bi->∃ bj,R' w1 (λj=>f (off+j)) z bj/\∀ c∈bj,c∈bi)
 (k:∀ a' p',Bo M w1 (Pt s' R') p' z->Sk a' n ((d,p')::L)->wpQuiet P ops C K rest a'):wpQuiet P ops C K (⟨some d,.fieldAddr t x kk,ty,pos,af,g⟩::rest) a:=
 let ⟨p',hr,h'⟩:=xPz (s':=s') hp F he h hf;pH F hc (λw' _=>hr w') (λa' F'=>k a' p' h' F')
theorem qlI {t:Ty} {p:Vl} {y:Int} (qa:∀ w,(isAgg t).run P w= .ok false w) (F:Sk a n L) (hc:vO ops n L g d=true) (he:ev L x=some p) (s:∀ w',C w'->Sm M w1 w') (h:Bo M w1 (Pt 1 xF) p y)
 (k:∀ a',xL y->Sk a' n ((d,.int .i64 y)::L)->wpQuiet P ops C K rest a'):wpQuiet P ops C K (⟨some d,.load t x,ty,pos,af,g⟩::rest) a:=
 let ⟨i,hr⟩:=xZh qa F he h;pH F hc (λw' l=>hr w' (s w' l)) (λa' F'=>k a' i F')
theorem qlB {t:Ty} {p:Vl} {y:Bool} (qa:∀ w,(isAgg t).run P w= .ok false w) (F:Sk a n L) (hc:vO ops n L g d=true) (he:ev L x=some p) (s:∀ w',C w'->Sm M w1 w') (h:Bo M w1 (Pt 1 aC) p y) (k:∀ a',Sk a' n ((d,.bool y)::L)->wpQuiet P ops C K rest a'):wpQuiet P ops C K (⟨some d,.load t x,ty,pos,af,g⟩::rest) a:=pH F hc (λw' l=>xSz qa F he h w' (s w' l)) k
theorem qlS {sz:Nat} {t:Ty} {p:Vl} {y:List α} (qa:∀ w,(isAgg t).run P w= .ok false w) (F:Sk a n L) (hc:vO ops n L g d=true) (he:ev L x=some p) (s:∀ w',C w'->Sm M w1 w') (h:Bo M w1 (Pt 1 (kP sz R)) p y)
 (k:∀ a' v,Bo M w1 (Sl sz R) v y->Sk a' n ((d,v)::L)->wpQuiet P ops C K rest a'):wpQuiet P ops C K (⟨some d,.load t x,ty,pos,af,g⟩::rest) a:=
 let ⟨v,hv,hr⟩:=oHd qa F he h;pH F hc (λw' l=>hr w' (s w' l)) (λa' F'=>k a' v hv F')
theorem qlA {sz:Nat} [hR:FrC sz R] {t:Ty} {p:Vl} (qa:∀ w,(isAgg t).run P w= .ok true w) (qc:∀ w,(sizeOf t).run P w= .ok sz w) (F:Sk a n L) (hc:vO ops n L g d=true) (he:ev L x=some p) (s:∀ w',C w'->Sm M w1 w') (h:Bo M w1 (Pt sz R) p y)
 (k:∀ a' v,Bo M w1 (qS sz R) v y->Sk a' n ((d,v)::L)->wpQuiet P ops C K rest a'):wpQuiet P ops C K (⟨some d,.load t x,ty,pos,af,g⟩::rest) a:=
 let ⟨v,hv,hr⟩:=oAz qa qc F he h;pH F hc (λw' l=>hr w' (s w' l)) (λa' F'=>k a' v hv F')
theorem qL {sz:Nat} {t:Ty} {v:Vl} {l:List α} {e:Ty} (ht:P.underlying t=some (.slice e)) (F:Sk a n L) (hc:vO ops n L g d=true) (he:ev L x=some v) (h:Bo M w1 (Sl sz R) v l) (k:∀ a',xL (l.length:Int)->Sk a' n ((d,.int .i64 l.length)::L)->wpQuiet P ops C K rest a'):wpQuiet P ops C K (⟨some d,.call ⟨.builtin .len,#[x],#[t]⟩,ty,pos,af,g⟩::rest) a:=pH F hc (λw' _=>oAq ht F he h w') (λa' F'=>k a' h.slen F')
theorem qN {sz:Nat} {p:Vl} (F:Sk a n L) (hc:vO ops n L g d=true) (e:ev L x=some p) (h:Bo M w1 (Pt sz R) p y)
 (k:∀ a',Sk a' n ((d,p)::L)->wpQuiet P ops C K rest a'):wpQuiet P ops C K (⟨some d,.nilCheck x,ty,pos,af,g⟩::rest) a:=
 have hr:=oAo (d:=some d) (ty:=ty) (pos:=pos) (af:=af) (g:=g) F e h;pH F hc (λw' _=>hr w') k
theorem qB {t:Ty} {b o:Nat} {v:Vl} {cs:List Vl} {T:Ty} (qa:∀ w,(isAgg t).run P w= .ok false w) (F:Sk a n L) (hc:vO ops n L g d=true) (he:ev L x=some (.pointer (some ⟨b,o,none⟩))) (h:∀ w',C w'->nA w' b cs.toArray T) (hv:cs[o]?=some v) (k:∀ a',Sk a' n ((d,v)::L)->wpQuiet P ops C K rest a'):wpQuiet P ops C K (⟨some d,.load t x,ty,pos,af,g⟩::rest) a:=pH F hc (λw' l=>sY qa F he (((h w' l).cell o).trans (by simpa using hv))) k
theorem qBA {t:Ty} {b o sz:Nat} {cs vs:List Vl} {T:Ty} (qa:∀ w,(isAgg t).run P w= .ok true w) (qc:∀ w,(sizeOf t).run P w= .ok sz w) (F:Sk a n L) (hc:vO ops n L g d=true) (he:ev L x=some (.pointer (some ⟨b,o,none⟩))) (h:∀ w',C w'->nA w' b cs.toArray T) (hv:(cs.drop o).take sz=vs) (hl:vs.length=sz) (k:∀ a',Sk a' n ((d,.agg vs.toArray)::L)->wpQuiet P ops C K rest a'):wpQuiet P ops C K (⟨some d,.load t x,ty,pos,af,g⟩::rest) a:= pH F hc (λw' l=>xRg qa qc F he (h w' l) hl (λj hj=>by subst hv;simp [Be,hj])) k
end
section
variable {P:Program} {ops:Array Oper} {C:Wd->Prop} {K:Act->Prop} {a:Act} {w w0 w1:Wd} {n:Nat} {L:List (Nat×Vl)} {rest:List Oper} {d:Nat} {ty:Ty} {pos:String} {af:Array Edge} {g:Option (Nat×Bool)} {M N:Nat->Prop} {X:List Nat} {D:List As}
theorem vI {sz:Nat} {iy:Operand} {t:Ty} {v:Vl} {l:List α} {e:Ty} {i:Int} (ht:P.underlying t=some (.slice e)) (qa:∀ w,(sizeOf e).run P w= .ok sz w)
 (F:Sk a n L) (hc:vO ops n L g d=true) (he:ev L x=some v) (hi:ev L iy=some (.int .i64 i)) (h:Bo M w1 (Sl sz R) v l) (qc:ix l i=some y)
 (k:∀ a' p,Bo M w1 (Pt sz R) p y->Sk a' n ((d,p)::L)->K a'):wpV P ops C K ⟨some d,.indexAddr t x iy,ty,pos,af,g⟩ a:=
 let ⟨p,hr,hp⟩:=xPp ht qa F he hi h qc;gT F hc (λw' _=>hr w') (λa' F'=>k a' p hp F')
theorem vF {β:Type} {sz s':Nat} {R':ER β} {t:Ty} {kk:Nat} {p:Vl} {z:β} {off:Nat} (hp:∀ (a:Addr) w,(Instr.fieldAt t (.pointer (some a)) kk).run P w= .ok (.pointer (some (a.add off))) w)
 (F:Sk a n L) (hc:vO ops n L g d=true) (he:ev L x=some p) (h:Bo M w1 (Pt sz R) p y) (hf:∀ f bi,R w1 f y bi->∃ bj,R' w1 (λj=>f (off+j)) z bj/\∀ c∈bj,c∈bi)
 (k:∀ a' p',Bo M w1 (Pt s' R') p' z->Sk a' n ((d,p')::L)->K a'):wpV P ops C K ⟨some d,.fieldAddr t x kk,ty,pos,af,g⟩ a:=
 let ⟨p',hr,h'⟩:=xPz (s':=s') hp F he h hf;gT F hc (λw' _=>hr w') (λa' F'=>k a' p' h' F')
theorem vlI {t:Ty} {p:Vl} {y:Int} (qa:∀ w,(isAgg t).run P w= .ok false w) (F:Sk a n L) (hc:vO ops n L g d=true) (he:ev L x=some p) (s:∀ w',C w'->Sm M w1 w') (h:Bo M w1 (Pt 1 xF) p y)
 (k:∀ a',xL y->Sk a' n ((d,.int .i64 y)::L)->K a'):wpV P ops C K ⟨some d,.load t x,ty,pos,af,g⟩ a:=
 let ⟨i,hr⟩:=xZh qa F he h;gT F hc (λw' l=>hr w' (s w' l)) (λa' F'=>k a' i F')
theorem vlB {t:Ty} {p:Vl} {y:Bool} (qa:∀ w,(isAgg t).run P w= .ok false w) (F:Sk a n L) (hc:vO ops n L g d=true) (he:ev L x=some p) (s:∀ w',C w'->Sm M w1 w') (h:Bo M w1 (Pt 1 aC) p y) (k:∀ a',Sk a' n ((d,.bool y)::L)->K a'):wpV P ops C K ⟨some d,.load t x,ty,pos,af,g⟩ a:=gT F hc (λw' l=>xSz qa F he h w' (s w' l)) k
theorem vlS {sz:Nat} {t:Ty} {p:Vl} {y:List α} (qa:∀ w,(isAgg t).run P w= .ok false w) (F:Sk a n L) (hc:vO ops n L g d=true) (he:ev L x=some p) (s:∀ w',C w'->Sm M w1 w') (h:Bo M w1 (Pt 1 (kP sz R)) p y)
 (k:∀ a' v,Bo M w1 (Sl sz R) v y->Sk a' n ((d,v)::L)->K a'):wpV P ops C K ⟨some d,.load t x,ty,pos,af,g⟩ a:=
 let ⟨v,hv,hr⟩:=oHd qa F he h;gT F hc (λw' l=>hr w' (s w' l)) (λa' F'=>k a' v hv F')
theorem vlP {sz:Nat} {t:Ty} {p:Vl} (qa:∀ w,(isAgg t).run P w= .ok false w) (F:Sk a n L) (hc:vO ops n L g d=true) (he:ev L x=some p) (s:∀ w',C w'->Sm M w1 w') (h:Bo M w1 (Pt 1 (RP sz R)) p y)
 (k:∀ a' v,Bo M w1 (Pt sz R) v y->Sk a' n ((d,v)::L)->K a'):wpV P ops C K ⟨some d,.load t x,ty,pos,af,g⟩ a:=
 let ⟨v,hv,hr⟩:=oJl qa F he h;gT F hc (λw' l=>hr w' (s w' l)) (λa' F'=>k a' v hv F')
theorem vlA {sz:Nat} [hR:FrC sz R] {t:Ty} {p:Vl} (qa:∀ w,(isAgg t).run P w= .ok true w) (qc:∀ w,(sizeOf t).run P w= .ok sz w) (F:Sk a n L) (hc:vO ops n L g d=true) (he:ev L x=some p) (s:∀ w',C w'->Sm M w1 w') (h:Bo M w1 (Pt sz R) p y)
 (k:∀ a' v,Bo M w1 (qS sz R) v y->Sk a' n ((d,v)::L)->K a'):wpV P ops C K ⟨some d,.load t x,ty,pos,af,g⟩ a:=
 let ⟨v,hv,hr⟩:=oAz qa qc F he h;gT F hc (λw' l=>hr w' (s w' l)) (λa' F'=>k a' v hv F')
theorem vL {sz:Nat} {t:Ty} {v:Vl} {l:List α} {e:Ty} (ht:P.underlying t=some (.slice e)) (F:Sk a n L) (hc:vO ops n L g d=true) (he:ev L x=some v) (h:Bo M w1 (Sl sz R) v l) (k:∀ a',xL (l.length:Int)->Sk a' n ((d,.int .i64 l.length)::L)->K a'):wpV P ops C K ⟨some d,.call ⟨.builtin .len,#[x],#[t]⟩,ty,pos,af,g⟩ a:=gT F hc (λw' _=>oAq ht F he h w') (λa' F'=>k a' h.slen F')
theorem vC {sz:Nat} [hR:FrC sz R] {t e:Ty} {v:Vl} {l r:List α} {i j:Int} {lo hi:Option Operand} (ht:P.underlying t=some (.slice e)) (qa:∀ w,(sizeOf e).run P w= .ok sz w) (F:Sk a n L) (hc:vO ops n L g d=true) (he:ev L x=some v)
 (qc:match lo with | some y=>ev L y=some (.int .i64 i) | none=>i=0) (qd:match hi with | some y=>ev L y=some (.int .i64 j) | none=>j=l.length) (h:Bo M w1 (Sl sz R) v l) (hs:sl l i j=some r)
 (k:∀ a' v',Bo M w1 (Sl sz R) v' r->Sk a' n ((d,v')::L)->K a'):wpV P ops C K ⟨some d,.slice t x lo hi none,ty,pos,af,g⟩ a:=
 let ⟨v',hv,hr⟩:=oFr ht qa F he qc qd h hs;gT F hc (λw' _=>hr w') (λa' F'=>k a' v' hv F')
theorem vN {sz:Nat} {p:Vl} (F:Sk a n L) (hc:vO ops n L g d=true) (e:ev L x=some p) (h:Bo M w1 (Pt sz R) p y)
 (k:∀ a',Sk a' n ((d,p)::L)->K a'):wpV P ops C K ⟨some d,.nilCheck x,ty,pos,af,g⟩ a:=
 have hr:=oAo (d:=some d) (ty:=ty) (pos:=pos) (af:=af) (g:=g) F e h;gT F hc (λw' _=>hr w') k
theorem vB {t:Ty} {b o:Nat} {v:Vl} {cs:List Vl} {T:Ty} (qa:∀ w,(isAgg t).run P w= .ok false w) (F:Sk a n L) (hc:vO ops n L g d=true) (he:ev L x=some (.pointer (some ⟨b,o,none⟩))) (h:∀ w',C w'->nA w' b cs.toArray T) (hv:cs[o]?=some v) (k:∀ a',Sk a' n ((d,v)::L)->K a'):wpV P ops C K ⟨some d,.load t x,ty,pos,af,g⟩ a:=gT F hc (λw' l=>sY qa F he (((h w' l).cell o).trans (by simpa using hv))) k
theorem vBA {t:Ty} {b o sz:Nat} {cs vs:List Vl} {T:Ty} (qa:∀ w,(isAgg t).run P w= .ok true w) (qc:∀ w,(sizeOf t).run P w= .ok sz w) (F:Sk a n L) (hc:vO ops n L g d=true) (he:ev L x=some (.pointer (some ⟨b,o,none⟩))) (h:∀ w',C w'->nA w' b cs.toArray T) (hv:(cs.drop o).take sz=vs) (hl:vs.length=sz) (k:∀ a',Sk a' n ((d,.agg vs.toArray)::L)->K a'):wpV P ops C K ⟨some d,.load t x,ty,pos,af,g⟩ a:= gT F hc (λw' l=>xRg qa qc F he (h w' l) hl (λj hj=>by subst hv;simp [Be,hj])) k
end
end
end Go.Proofs.YtnjlbbfcngjhmaaGreat
