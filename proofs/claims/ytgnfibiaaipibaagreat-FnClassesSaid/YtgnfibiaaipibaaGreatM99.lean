import Derived.Test.YtgnfibiaaipibaaGreatM79
import Derived.Laws.Bits64b
import Derived.Test.YtgnfibiaaipibaaGreatLL
namespace Go.Proofs.YtgnfibiaaipibaaGreat
set_option linter.unusedVariables false
set_option linter.unusedSimpArgs false
set_option maxRecDepth 100000
instance:DecidableEq Rel:=fun a b=>decidable_of_iff (a.arity=b.arity∧a.tuples=b.tuples) ⟨fun h=>by cases a;cases b;cases h.1;cases h.2;rfl,fun h=>by cases h;exact⟨rfl,rfl⟩⟩
def opL (k:Int):Op:=(iF k).getD ⟨0,[]⟩
def sixL:List Int:=[1,2,3,4,5,6]
def partsL:List (List Int)→List (List (List Int))
  | []=>[[]]
  | a::l=>partsL l++(partsL l).map (a :: ·)
def R20:List Rel:=(partsL [[0],[1]]).map (Rel.mk 1)++(partsL [[0,0],[0,1],[1,0],[1,1]]).map (Rel.mk 2)
def kept (k:Int) (r:Rel):Bool:=impl_keeps 2000 2 (opL k) r==some true
def keptT (k:Int) (t:Template):Bool:=t.rels.all (kept k)
def evB (n:Nat) (q u:List Int):Bool:=decide ((dt q u n+q.getD n 0) % 2=0)
def minB (b:Bool) (r:Rel):Bool:=r.tuples.all fun a=>r.tuples.all fun c=>a.length != 2 || decide ([mmB b (a.getD 0 0) (c.getD 0 0),mmB b (a.getD 1 0) (c.getD 1 0)]∈r.tuples)
def bitB (l:List Int):Bool:=l.all fun a=>decide (0≤a∧a≤1)
def eqsL (r:Rel):List (List Int):=(aG 2000 r).getD []
def constB (a:Int) (r:Rel):Bool:=r.tuples.isEmpty || decide (List.replicate r.arity.toNat a∈r.tuples)
def relA (r:Rel):Bool:=
  relB' 2 r && decide (1≤r.arity∧r.arity≤2) && decide (r.tuples.length≤4) && (!kept 1 r || constB 0 r) && (!kept 2 r || constB 1 r) && (!kept 3 r || minB false r) && (!kept 4 r || minB true r)
def eqA (r:Rel):Bool:=
  (aG 2000 r==some (eqsL r)) && (aK 2000 r==some (eqsL r)) && decide ((eqsL r).length≤31) && ((eqsL r).all fun q=>decide ((q.length:Int)=r.arity+1) && bitB q) &&
    (aQ 2 r.arity.toNat).all fun u=>(!(decide (u∈r.tuples)) || (eqsL r).all fun q=>evB r.arity.toNat q u) && (!kept 6 r || !((eqsL r).all fun q=>evB r.arity.toNat q u) || decide (u∈r.tuples)) && (cN 2 r u==some (decide (u∈r.tuples),0))
def eqL (r:Rel):Bool:=(bJ 2000 r==some (eqsL r,0)) && (bM 2000 r==some (eqsL r,0)) && (gF (eqsL r) (eqsL r)==some true)
def closB (k:Int) (r:Rel):Bool:=
  if r.tuples.isEmpty then kept k r
  else match xY (aH 2000 2 r) fun z=>bA 2000 2 [opL k] z.1 z.2.1 z.2.2 with
    | some (q,_)=>decide (q∈R20) && kept k q
    | none=>false
theorem relA_ok:R20.all relA=true:=by decide +kernel
theorem eqA_ok:R20.all eqA=true:=by decide +kernel
theorem eqL_ok:R20.all eqL=true:=by decide +kernel
theorem closB_ok:(sixL.all fun k=>R20.all (closB k))=true:=by decide +kernel
end Go.Proofs.YtgnfibiaaipibaaGreat
namespace Go.Proofs.YtgnfibiaaipibaaGreat
set_option linter.unusedVariables false
set_option linter.unusedSimpArgs false
set_option maxRecDepth 100000
def wBody (t : Template) (cl : List Int) : Int → Option (Ctl Int Bool) := fun (s166 : Int) =>
     if (decide (s166≤6)) then
      xY (gO 2000 (Template.mk t.size t.rels) s166) fun z177=>
      xY (cV cl s166) fun z186=>
      if z186 then
       if (z177.2.2.2 != 6) then
        some (.ret false)
       else
        xY (ck (s166+1)) fun z190=>
        some (.go z190)
      else
       vT (σ:=Bool) (
        if (z177.2.2.2 != 0) then  some (.nx true) else  if (decide (z177.1<0)) then  some (.nx true) else  some (.nx (decide ((t.rels.length:Int)≤z177.1)))) fun s198=>
       if s198 then
        some (.ret false)
       else
        xY (dB s166) fun z203=>
        xY (eW 2000 2 (Op.mk z203.arity z203.table) z177.2.1) fun z209=>
        xY (ix t.rels z177.1) fun z215=>
        xY (cN 2 z215 z177.2.2.1) fun z221=>
        vT (σ:=Bool) (
         if (z209.2 != 0) then  some (.nx true) else  xY (bL z209.1 z177.2.2.1) fun z235=>
          if (!z235) then  some (.nx true) else  if (z221.2 != 0) then  some (.nx true) else  some (.nx z221.1)) fun s233=>
        if s233 then
         some (.ret false)
        else
         xY (ck (s166+1)) fun z240=>
         some (.go z240)
     else
      some (.brk s166)
def clsL (t:Template):List Int:=sixL.filter fun k=>keptT k t
def whyB (t:Template):Bool:=match cF (wBody t (clsL t)) 2000 1 with
  | some (.nx _)=>true
  | _=>false
def tPart (t:Template):Bool:=
  (eJ 2000 t==some (clsL t,0)) && whyB t && sixL.all fun k=>(kZ t k==some 0) && (iG t k==some 0) && (dL 2000 t (opL k)==some (keptT k t)) && (spec_l09Is 2000 t k==some (keptT k t))
def rowT (i:Nat):Bool:=tPart ⟨2,[R20.getD i default]⟩ && R20.all fun q=>tPart ⟨2,[R20.getD i default,q]⟩
theorem row_0:rowT 0=true:=by decide +kernel
theorem row_1:rowT 1=true:=by decide +kernel
theorem row_2:rowT 2=true:=by decide +kernel
theorem row_3:rowT 3=true:=by decide +kernel
theorem row_4:rowT 4=true:=by decide +kernel
theorem row_5:rowT 5=true:=by decide +kernel
theorem row_6:rowT 6=true:=by decide +kernel
theorem row_7:rowT 7=true:=by decide +kernel
theorem row_8:rowT 8=true:=by decide +kernel
theorem row_9:rowT 9=true:=by decide +kernel
theorem row_10:rowT 10=true:=by decide +kernel
theorem row_11:rowT 11=true:=by decide +kernel
theorem row_12:rowT 12=true:=by decide +kernel
theorem row_13:rowT 13=true:=by decide +kernel
theorem row_14:rowT 14=true:=by decide +kernel
theorem row_15:rowT 15=true:=by decide +kernel
theorem row_16:rowT 16=true:=by decide +kernel
theorem row_17:rowT 17=true:=by decide +kernel
theorem row_18:rowT 18=true:=by decide +kernel
theorem row_19:rowT 19=true:=by decide +kernel
theorem rows_ok:∀ i,i<20→rowT i=true
  | 0,_=>row_0
  | 1,_=>row_1
  | 2,_=>row_2
  | 3,_=>row_3
  | 4,_=>row_4
  | 5,_=>row_5
  | 6,_=>row_6
  | 7,_=>row_7
  | 8,_=>row_8
  | 9,_=>row_9
  | 10,_=>row_10
  | 11,_=>row_11
  | 12,_=>row_12
  | 13,_=>row_13
  | 14,_=>row_14
  | 15,_=>row_15
  | 16,_=>row_16
  | 17,_=>row_17
  | 18,_=>row_18
  | 19,_=>row_19
  | n+20,h=>by omega
def Few (t:Template):Prop:=t.size=2∧(∀ r∈t.rels,r∈R20)∧(t.rels.length=1∨t.rels.length=2)
theorem few_part {t:Template} (h:Few t):tPart t=true:=by
  obtain⟨h1,h2,h3⟩:=h
  have key:∀ r∈R20,tPart ⟨2,[r]⟩=true∧∀ q∈R20,tPart ⟨2,[r,q]⟩=true:=fun r hr=>by
    obtain⟨i,hi⟩:=List.mem_iff_getElem?.1 hr;have hil:=(List.getElem?_eq_some_iff.1 hi).1
    have hlen:R20.length=20:=by decide
    have hg:R20.getD i default=r:=by rw[List.getD_eq_getElem?_getD,hi];rfl
    have:=rows_ok i (by omega)
    unfold rowT at this
    rw[hg,Bool.and_eq_true,List.all_eq_true] at this;exact this
  obtain⟨s,l⟩:=t;have h1:s=2:=h1;subst h1
  match l,h2,h3 with
  | [r],h2,_=>exact(key r (h2 r (by simp))).1
  | [r,q],h2,_=>exact(key r (h2 r (by simp))).2 q (h2 q (by simp))
  | [],_,h3=>simp at h3
  | _::_::_::_,_,h3=>simp at h3
end Go.Proofs.YtgnfibiaaipibaaGreat
namespace Go.Proofs.YtgnfibiaaipibaaGreat
set_option linter.unusedVariables false
set_option linter.unusedSimpArgs false
set_option maxRecDepth 100000
theorem forI_inv {σ ρ:Type} {f:Nat→σ→Option (Ctl σ ρ)} (I:Nat→σ→Prop):∀ (m k:Nat) (s:σ),I k s→(∀ j s,k≤j→j<k+m→I j s→∃ s',f j s=some (.go s')∧I (j+1) s')→∃ s',zH f m k s=some (.nx s')∧I (k+m) s'
  | 0,k,s,h,_=>⟨s,rfl,h⟩
  | m+1,k,s,h,hh=>by
    obtain⟨s',h1,h2⟩:=hh k s (by omega) (by omega) h;obtain⟨t,h3,h4⟩:=forI_inv I m (k+1) s' h2 (fun j s hj hm=>hh j s (by omega) (by omega));exact⟨t,by rw[eG h1];exact h3,by rw[show k+(m+1)=k+1+m by omega];exact h4⟩
theorem whl_cnt {σ ρ:Type} {f:σ→Option (Ctl σ ρ)} (I:Nat→σ→Prop) (go:∀ c s,I (c+1) s→∃ s',f s=some (.go s')∧I c s') (stop:∀ s,I 0 s→f s=some (.brk s)):∀ (c N:Nat) (s:σ),c<N→I c s→∃ s',cF f N s=some (.nx s')∧I 0 s'
  | c,0,s,h,_=>by omega
  | 0,N+1,s,_,h=>⟨s,bY (stop s h),h⟩
  | c+1,N+1,s,hN,h=>by
    obtain⟨s',h1,h2⟩:=go c s h;obtain⟨t,h3,h4⟩:=whl_cnt I go stop c N s' (by omega) h2;exact⟨t,by rw[fC h1];exact h3,h4⟩
theorem wrapU (x:Int):∃ n:Nat,n<18446744073709551616∧IntKind.u64.wrap x=(n:Int):=by
  have h:IntKind.u64.wrap x=x % 18446744073709551616:=by
    unfold IntKind.wrap
    simp [show IntKind.u64.bits=64 from rfl,show IntKind.u64.signed=false from rfl]
  rw[h];exact⟨(x % 18446744073709551616).toNat,by omega,by omega⟩
theorem tail_ok (x:Int):0≤IntKind.i64.wrap (Go.bits .and .u64 (IntKind.u64.wrap x / 2 ^ (40:Int).toNat) 255):=by
  obtain⟨n,h1,h2⟩:=wrapU x;rw[h2,show((n:Int) / 2 ^ (40:Int).toNat)=((n / 1099511627776:Nat):Int) by simp,show(255:Int)=((255:Nat):Int) from rfl,bits_and_u64_nat _ _ (by omega) (by decide)];have h3:(n / 1099511627776) &&& 255≤255:=Nat.and_le_right;rw[IntWalk.i64_in _ ⟨by omega,by omega⟩]
  omega
theorem next_ok (code:List UInt8) {at' seed:Int} (h:0≤at'∧at'≤1000000):∃ v s,cR code at' seed=some (v,at'+1,s)∧0≤v:=by
  unfold cR
  have hb:∃ b:Int,0≤b∧(if (decide (at'<(code.length:Int)))=true then xY (ix code at') fun z23=>some (Out.nx (σ:=Int) (ρ:=Int×Int×Int) (z23.toNat:Int)) else some (.nx 0))=some (.nx b):=by
    by_cases hl:at'<(code.length:Int)
    · refine⟨(code[at'.toNat]'(by omega)).toNat,by omega,?_⟩
      rw[if_pos (by simpa using hl),iM h.1 (List.getElem?_eq_getElem (by omega)),bnd_s]
    · exact⟨0,by omega,by rw[if_neg (by simpa using hl)]⟩
  obtain⟨b,h0,e⟩:=hb;rw[e,thn_nx,aJ (by omega) (by omega),bnd_s,nn_eq h0,bnd_s]
  split
  · exact⟨_,_,rfl,h0⟩
  · exact⟨_,_,rfl,tail_ok _⟩
theorem rm_ok {x n:Int} (h:0≤x) (hn:1<n):∃ v,rm x n=some v∧0≤v∧v<n:=by
  refine⟨x.tmod n,by unfold rm;rw[if_neg (by omega)],Int.tmod_nonneg _ h,Int.tmod_lt_of_pos _ (by omega)⟩
theorem jC (code:List UInt8) {at' seed:Int} (n:Int) (h:0≤at'∧at'≤1000000) (hn:1≤n∧n≤200):∃ v a s,qZ code at' seed n=some (v,a,s)∧(0≤v∧v<n)∧at'≤a∧a≤at'+1:=by
  unfold qZ
  by_cases h1:n≤1
  · rw[if_pos (by simpa using h1)]
    exact⟨0,at',seed,rfl,by omega,by omega⟩
  · rw[if_neg (by simpa using h1)]
    obtain⟨x,s,e,hx⟩:=next_ok code (seed:=seed) h;obtain⟨v,e2,h2⟩:=rm_ok hx (show 1<n by omega);rw[e,bnd_s,if_neg (by simp<;>omega),e2,bnd_s];exact⟨v,_,_,rfl,h2,by simp only;omega,by simp only;omega⟩
theorem parts_mem:∀ {l m:List (List Int)},m.Sublist l→m∈partsL l
  | [],m,h=>by rw[List.sublist_nil.1 h];simp [partsL]
  | a::l,m,h=>by
    unfold partsL
    rcases List.sublist_cons_iff.1 h with h2 | ⟨r,h1,h2⟩
    · exact List.mem_append.2 (.inl (parts_mem h2))
    · exact List.mem_append.2 (.inr (List.mem_map.2 ⟨r,parts_mem h2,h1.symm⟩))
def digL (ar:Int):List (List Int):=if ar=1 then [[0],[1]] else [[0,0],[0,1],[1,0],[1,1]]
theorem parts_R20 {ar:Int} (ha:ar=1∨ar=2) {m:List (List Int)} (h:m.Sublist (digL ar)):Rel.mk ar m∈R20:=by
  unfold R20
  rcases ha with rfl | rfl
  · exact List.mem_append.2 (.inl (List.mem_map.2 ⟨m,parts_mem h,rfl⟩))
  · exact List.mem_append.2 (.inr (List.mem_map.2 ⟨m,parts_mem h,rfl⟩))
theorem digR_at:∀ ar∈([1,2]:List Int),kC 2000 2 ar=some ((digL ar).length:Int)∧∀ k<(digL ar).length,(aT 2000 2 ar ((k:Nat):Int))=(digL ar)[k]?:=by decide +kernel
theorem drawn_ok (code:List UInt8) {at' seed:Int} {ar:Int} (h:0≤at'∧at'≤900000) (ha:ar=1∨ar=2):∃ r a s,fQ 2000 code at' seed 2 ar=some (r,a,s)∧r∈R20∧0≤a∧a≤at'+20:=by
  obtain⟨hp,hd⟩:=digR_at ar (by simpa using ha)
  have hlen:(digL ar).length≤4:=by unfold digL;split<;>decide
  unfold fQ
  obtain⟨v,a,s,e,hv,ha1,ha2⟩:=jC code (seed:=seed) 5 (at':=at') (by omega) (by decide);rw[e,bnd_s,hp,bnd_s,Int.toNat_natCast];simp only
  obtain⟨⟨a1,s1,t1⟩,e1,i1⟩:=forI_inv (f:=fun(k209:Nat) (s:Int×Int×(List (List Int)))=>
    match s with
    | (s197,s199,s200)=>
    vT (σ:=Bool×Int×Int) (
     xY (qZ code s197 s199 5) fun z238=>
     if (decide (z238.1≤v)) then  some (.nx (true,z238.2.1,z238.2.2)) else  xY (dF code z238.2.1 z238.2.2 8) fun z247=>
      some (.nx (z247.1,z247.2.1,z247.2.2))) fun(s234,s235,s237)=>
    if s234 then
     xY (aT 2000 2 ar (k209:Int)) fun z255=>
     xY (ap s200 ([z255])) fun z262=>
     some (.go (s235,s237,z262))
    else
     some (.go (s235,s237,s200))) (ρ:=Rel×Int×Int) (fun k s=>0≤s.1∧s.1≤at'+1+2*k∧s.2.2.Sublist ((digL ar).take k)) (digL ar).length 0 (a,s,[]) ⟨by omega,by simp only;omega,by simp⟩ (fun j st _ hj hI=>by
    obtain⟨a0,s0,t0⟩:=st;obtain⟨h1,h2,h3⟩:=hI;simp only at h1 h2 h3
    have htk:(digL ar).take (j+1)=(digL ar).take j++[(digL ar)[j]'(by omega)]:=by rw[List.take_add_one,List.getElem?_eq_getElem (by omega)];rfl
    have htl:t0.length≤4:=Nat.le_trans h3.length_le (by rw[List.length_take];omega);obtain⟨v2,a2,s2,e2,hv2,hb1,hb2⟩:=jC code (seed:=s0) 5 (at':=a0) (by omega) (by decide)
    have hq:∃ b a3 s3,(xY (qZ code a0 s0 5) fun z238=>
     if (decide (z238.1≤v)) then  some (Out.nx (σ:=Bool×Int×Int) (ρ:=Ctl (Int×Int×(List (List Int))) (Rel×Int×Int)) (true,z238.2.1,z238.2.2)) else  xY (dF code z238.2.1 z238.2.2 8) fun z247=>
      some (.nx (z247.1,z247.2.1,z247.2.2)))=some (.nx (b,a3,s3))∧0≤a3∧a3≤a0+2:=by
      rw[e2,bnd_s];simp only
      split
      · exact⟨_,_,_,rfl,by omega,by omega⟩
      · unfold dF
        obtain⟨v4,a4,s4,e4,_,hc1,hc2⟩:=jC code (seed:=s2) 8 (at':=a2) (by omega) (by decide);rw[e4,bnd_s,bnd_s];exact⟨_,_,_,rfl,by simp only;omega,by simp only;omega⟩
    obtain⟨b,a3,s3,e3,hd1,hd2⟩:=hq;simp only;rw[e3,thn_nx];simp only
    cases b with
    | true=>
      rw[if_pos rfl,hd j (by omega),List.getElem?_eq_getElem (by omega),bnd_s,cK (by simp only[List.length_cons,List.length_nil];omega),bnd_s];refine⟨_,rfl,by simp only;omega,by simp only;omega,?_⟩;rw[htk];exact h3.append (List.Sublist.refl _)
    | false=>
      rw[if_neg (by simp)];refine⟨_,rfl,by simp only;omega,by simp only;omega,?_⟩;rw[htk]
      exact h3.trans (List.sublist_append_left _ _))
  rw[e1,thn_nx];obtain⟨h1,h2,h3⟩:=i1;simp only[Nat.zero_add,List.take_length] at h1 h2 h3;exact⟨_,_,_,rfl,parts_R20 ha h3,h1,by omega⟩
theorem clos_ok {k:Int} {r:Rel} (hk:k∈sixL) (hr:r∈R20) (hne:r.tuples≠[]):∃ z q x,aH 2000 2 r=some z∧bA 2000 2 [opL k] z.1 z.2.1 z.2.2=some (q,x)∧q∈R20∧kept k q=true:=by
  have h:=List.all_eq_true.1 (List.all_eq_true.1 closB_ok k hk) r hr
  unfold closB at h
  rw[if_neg (by simpa using hne)] at h
  split at h
  · rename_i q x e
    obtain⟨z,hz⟩:∃ z,aH 2000 2 r=some z:=by
      cases hz:aH 2000 2 r with
      | none=>rw[hz] at e;cases e
      | some z=>exact⟨z,rfl⟩
    rw[hz,bnd_s] at e;rw[Bool.and_eq_true,decide_eq_true_iff] at h;exact⟨z,q,x,hz,e,h.1,h.2⟩
  · cases h
theorem nil_kept {k:Int} {r:Rel} (hk:k∈sixL) (hr:r∈R20) (he:r.tuples=[]):kept k r=true:=by
  have h:=List.all_eq_true.1 (List.all_eq_true.1 closB_ok k hk) r hr
  unfold closB at h
  rw[if_pos (by rw[he];rfl)] at h;exact h
structure KT (k:Int) (t:Template):Prop where
  s:t.size=2
  r:∀ r∈t.rels,r∈R20∧kept k r=true
  n:t.rels.length=1∨t.rels.length=2
theorem kept_ok (code:List UInt8) {k:Int} (hk:k∈sixL):∃ t,iJ 2000 code 2 (opL k)=some t∧KT k t:=by
  unfold iJ bQ
  rw[bnd_s];simp only;obtain⟨v,a,s,e,hv,ha1,ha2⟩:=jC code (seed:=0) 2 (at':=0) (by omega) (by decide);rw[e,bnd_s,aJ (by simp only;omega) (by simp only;omega),bnd_s];simp only;obtain⟨m,hm⟩:∃ m:Nat,1+v=m:=⟨(1+v).toNat,by omega⟩;rw[hm]
  obtain⟨⟨c1,a1,s1,l1⟩,e1,i1⟩:=whl_cnt (f:=fun(s:Int×Int×Int×(List Rel))=>
    match s with
    | (s459,s461,s463,s464)=>
    if (decide (0<s459)) then
     xY (qZ code s461 s463 2) fun z482=>
     xY (ck (1+z482.1)) fun z490=>
     xY (fQ 2000 code z482.2.1 z482.2.2 2 z490) fun z492=>
     vT (σ:=Int×(List (List Int))) (
      if (decide (0<(z492.1.tuples.length:Int))) then
       xY (aH 2000 2 (Rel.mk z492.1.arity z492.1.tuples)) fun z597=>
       xY (bA 2000 2 ([(Op.mk (opL k).arity (opL k).table)]) z597.1 z597.2.1 z597.2.2) fun z614=>
       some (.nx (z614.1.arity,z614.1.tuples))
      else
       some (.nx (z492.1.arity,z492.1.tuples))) fun(s589,s591)=>
     xY (ap s464 ([(Rel.mk s589 s591)])) fun z679=>
     xY (ck (s459 - 1)) fun z683=>
     some (.go (z683,z492.2.1,z492.2.2,z679))
    else
     some (.brk (s459,s461,s463,s464))) (ρ:=Template) (fun c s=>s.1=(c:Int)∧c≤2∧(0≤s.2.1∧s.2.1≤10000 - 100*(c:Int))∧s.2.2.2.length+c=m∧∀ r∈s.2.2.2,r∈R20∧kept k r=true) (fun c st hI=>by
    obtain⟨c0,a0,s0,l0⟩:=st;obtain⟨h1,h2,h3,h4,h5⟩:=hI;simp only at h1 h2 h3 h4 h5;subst h1;simp only;rw[if_pos (by simp<;>omega)];obtain⟨v2,a2,s2,e2,hv2,hb1,hb2⟩:=jC code (seed:=s0) 2 (at':=a0) (by omega) (by decide);rw[e2,bnd_s,aJ (by simp only;omega) (by simp only;omega),bnd_s];simp only;obtain⟨r,a3,s3,e3,hr,hc1,hc2⟩:=drawn_ok code (seed:=s2) (at':=a2) (ar:=1+v2) (by omega) (by omega);rw[e3,bnd_s];simp only
    have hq:∃ q,q∈R20∧kept k q=true∧(if (decide (0<(r.tuples.length:Int))) then
       xY (aH 2000 2 (Rel.mk r.arity r.tuples)) fun z597=>
       xY (bA 2000 2 ([(Op.mk (opL k).arity (opL k).table)]) z597.1 z597.2.1 z597.2.2) fun z614=>
       some (Out.nx (σ:=Int×(List (List Int))) (ρ:=Ctl (Int×Int×Int×(List Rel)) Template) (z614.1.arity,z614.1.tuples))
      else
       some (.nx (r.arity,r.tuples)))=some (.nx (q.arity,q.tuples)):=by
      by_cases he:r.tuples=[]
      · exact⟨r,hr,nil_kept hk hr he,by rw[he,if_neg (by simp)]⟩
      · obtain⟨z,q,x,q1,q2,q3,q4⟩:=clos_ok hk hr he
        have hl:0<r.tuples.length:=List.length_pos_iff.2 he;refine⟨q,q3,q4,?_⟩;rw[if_pos (by simp;exact hl)];have q1':aH 2000 2 (Rel.mk r.arity r.tuples)=some z:=q1;have q2':bA 2000 2 [Op.mk (opL k).arity (opL k).table] z.1 z.2.1 z.2.2=some (q,x):=q2;rw[q1',bnd_s,q2',bnd_s]
    obtain⟨q,q1,q2,q3⟩:=hq;rw[q3,thn_nx];simp only;rw[cK (by simp only[List.length_cons,List.length_nil];omega),bnd_s,aJ (by omega) (by omega),bnd_s];refine⟨_,rfl,by simp only;omega,by omega,⟨by simp only;omega,by simp only;omega⟩,by simp only[List.length_append,List.length_singleton];omega,fun r' hr'=>?_⟩
    rcases List.mem_append.1 hr' with hr' | hr'
    · exact h5 r' hr'
    · rw[List.mem_singleton] at hr'
      rw[hr']
      exact⟨q1,q2⟩) (fun st hI=>by
    obtain⟨c0,a0,s0,l0⟩:=st;obtain⟨h1,_⟩:=hI;simp only at h1;subst h1
    rfl) m 2000 ((m:Int),a,s,[]) (by omega) ⟨rfl,by omega,⟨by simp only;omega,by simp only;omega⟩,by simp,fun r hr=>nomatch hr⟩
  rw[e1,thn_nx];obtain⟨h1,h2,h3,h4,h5⟩:=i1;simp only at h4 h5;exact⟨_,rfl,rfl,h5,by simp only;omega⟩
theorem rel_R20 {r:Rel} (h:r∈R20):relA r=true:=List.all_eq_true.1 relA_ok r h
theorem ar_R20 {r:Rel} (h:r∈R20):1≤r.arity∧r.arity≤2:=by
  have:=rel_R20 h
  unfold relA at this
  simp only[Bool.and_eq_true,decide_eq_true_iff] at this;exact this.1.1.1.1.1.2
theorem inst_ok (code:List UInt8) {k:Int} {t:Template} (hT:KT k t):∃ x,dE 2000 code t 5=some x∧(1≤x.vars∧x.vars≤5)∧x.cons.length≤6∧∀ c∈x.cons,CV t x.vars c:=by
  unfold dE bQ
  rw[bnd_s];simp only
  unfold spec_l05Drawn
  obtain⟨v,a,s,e,hv,ha1,ha2⟩:=jC code (seed:=0) 5 (at':=0) (by omega) (by decide);rw[e,bnd_s,aJ (by simp only;omega) (by simp only;omega),bnd_s];simp only;obtain⟨v',a',s',e',hv',hb1,hb2⟩:=jC code (seed:=s) 7 (at':=a) (by omega) (by decide);rw[e',bnd_s];simp only;obtain⟨m,hm⟩:∃ m:Nat,v'=m:=⟨v'.toNat,by omega⟩;subst hm;have hn:=hT.n
  obtain⟨⟨c1,a1,s1,l1⟩,e1,i1⟩:=whl_cnt (f:=fun(s:Int×Int×Int×(List Con))=>
    match s with
    | (s538,s540,s542,s543)=>
    vT (σ:=Bool) (
     if (decide (0<s538)) then  some (.nx (decide (0<(t.rels.length:Int)))) else  some (.nx false)) fun s569=>
    if s569 then
     xY (qZ code s540 s542 (t.rels.length:Int)) fun z582=>
     xY (ix t.rels z582.1) fun z595=>
     vT (σ:=Int×Int×Int×(List Int)) (
      cF (σ:=Int×Int×Int×(List Int)) (ρ:=(Ctl (Int×Int×Int×(List Con)) (Instance×Int×Int))) (fun(s:Int×Int×Int×(List Int))=>
        match s with
        | (s722,s724,s726,s727)=>
        if (decide (0<s722)) then
         xY (qZ code s724 s726 (1+v)) fun z745=>
         xY (ap s727 ([z745.1])) fun z755=>
         xY (ck (s722 - 1)) fun z793=>
         some (.go (z793,z745.2.1,z745.2.2,z755))
        else
         some (.brk (s722,s724,s726,s727))) 2000 (z595.arity,z582.2.1,z582.2.2,[])) fun(s730,s732,s734,s735)=>
     xY (ap s543 ([(Con.mk z582.1 s735)])) fun z799=>
     xY (ck (s538 - 1)) fun z803=>
     some (.go (z803,s732,s734,z799))
    else
     some (.brk (s538,s540,s542,s543))) (ρ:=Instance×Int×Int) (fun c s=>s.1=(c:Int)∧c≤6∧(0≤s.2.1∧s.2.1≤10000 - 100*(c:Int))∧s.2.2.2.length+c=m∧∀ c∈s.2.2.2,CV t (1+v) c) (fun c st hI=>by
    obtain⟨c0,a0,s0,l0⟩:=st;obtain⟨h1,h2,h3,h4,h5⟩:=hI;simp only at h1 h2 h3 h4 h5;subst h1;simp only;rw[if_pos (by simp<;>omega),thn_nx,if_pos (by simp<;>omega)];obtain⟨v2,a2,s2,e2,hv2,hb1,hb2⟩:=jC code (seed:=s0) (t.rels.length:Int) (at':=a0) (by omega) (by omega);have hrl:t.rels[v2.toNat]?=some (t.rels[v2.toNat]'(by omega)):=List.getElem?_eq_getElem (by omega);obtain⟨r,hr⟩:∃ r,r=t.rels[v2.toNat]'(by omega):=⟨_,rfl⟩;rw[← hr] at hrl
    have hrm:r∈t.rels:=by rw[hr];exact List.getElem_mem _
    have har:=ar_R20 (hT.r r hrm).1;rw[e2,bnd_s];simp only;rw[iM hv2.1 hrl,bnd_s];obtain⟨q,hq⟩:∃ q:Nat,r.arity=q:=⟨r.arity.toNat,by omega⟩
    obtain⟨⟨c3,a3,s3,l3⟩,e3,i3⟩:=whl_cnt (f:=fun(s:Int×Int×Int×(List Int))=>
        match s with
        | (s722,s724,s726,s727)=>
        if (decide (0<s722)) then
         xY (qZ code s724 s726 (1+v)) fun z745=>
         xY (ap s727 ([z745.1])) fun z755=>
         xY (ck (s722 - 1)) fun z793=>
         some (.go (z793,z745.2.1,z745.2.2,z755))
        else
         some (.brk (s722,s724,s726,s727))) (ρ:=(Ctl (Int×Int×Int×(List Con)) (Instance×Int×Int))) (fun c s=>s.1=(c:Int)∧c≤2∧(0≤s.2.1∧s.2.1≤a2+2 - (c:Int))∧s.2.2.2.length+c=q∧∀ i∈s.2.2.2,0≤i∧i<1+v) (fun c st hI=>by
      obtain⟨d0,b0,u0,m0⟩:=st;obtain⟨g1,g2,g3,g4,g5⟩:=hI;simp only at g1 g2 g3 g4 g5;subst g1;simp only;rw[if_pos (by simp<;>omega)];obtain⟨v6,a6,s6,e6,hv6,hc1,hc2⟩:=jC code (seed:=u0) (1+v) (at':=b0) (by omega) (by omega);rw[e6,bnd_s,cK (by simp only[List.length_cons,List.length_nil];omega),bnd_s,aJ (by omega) (by omega),bnd_s];refine⟨_,rfl,by simp only;omega,by omega,⟨by simp only;omega,by simp only;omega⟩,by simp only[List.length_append,List.length_singleton];omega,fun i hi=>?_⟩
      rcases List.mem_append.1 hi with hi | hi
      · exact g5 i hi
      · rw[List.mem_singleton] at hi
        rw[hi]
        exact hv6) (fun st hI=>by
      obtain⟨d0,b0,u0,m0⟩:=st;obtain⟨g1,_⟩:=hI;simp only at g1;subst g1
      rfl) q 2000 ((q:Int),a2,s2,[]) (by omega) ⟨rfl,by omega,⟨by simp only;omega,by simp only;omega⟩,by simp,fun i hi=>nomatch hi⟩
    rw[hq,e3,thn_nx];obtain⟨g1,g2,g3,g4,g5⟩:=i3;simp only at g1 g3 g4 g5;simp only;rw[cK (by simp only[List.length_cons,List.length_nil];omega),bnd_s,aJ (by omega) (by omega),bnd_s];refine⟨_,rfl,by simp only;omega,by omega,⟨by simp only;omega,by simp only;omega⟩,by simp only[List.length_append,List.length_singleton];omega,fun c' hc'=>?_⟩
    rcases List.mem_append.1 hc' with hc' | hc'
    · exact h5 c' hc'
    · rw[List.mem_singleton] at hc'
      rw[hc']
      exact⟨g5,r,hv2.1,hrl,hrm,by show(l3.length:Int)=r.arity;omega⟩) (fun st hI=>by
    obtain⟨c0,a0,s0,l0⟩:=st;obtain⟨h1,_⟩:=hI;simp only at h1;subst h1
    rfl) m 2000 ((m:Int),a',s',[]) (by omega) ⟨rfl,by omega,⟨by simp only;omega,by simp only;omega⟩,by simp,fun r hr=>nomatch hr⟩
  simp only at e1 ⊢;rw[e1,thn_nx,bnd_s];obtain⟨h1,h2,h3,h4,h5⟩:=i1;simp only at h4 h5;exact⟨_,rfl,⟨by simp only;omega,by simp only;omega⟩,by simp only;omega,h5⟩
theorem tuple_ok (code:List UInt8) {ar:Int} (h:1≤ar∧ar≤2):∃ u,jA code 2 ar=some u∧u∈aQ 2 ar.toNat:=by
  unfold jA bQ
  rw[bnd_s];simp only
  obtain⟨⟨l1,a1,s1⟩,e1,i1⟩:=forI_inv (f:=fun(k75:Nat) (s:(List Int)×Int×Int)=>
    match s with
    | (s63,s66,s68)=>
    xY (qZ code s66 s68 2) fun z81=>
    xY (ap s63 ([z81.1])) fun z91=>
    some (.go (z91,z81.2.1,z81.2.2))) (ρ:=List Int) (fun k s=>s.1.length=k∧(0≤s.2.1∧s.2.1≤k)∧∀ a∈s.1,0≤a∧a<2) ar.toNat 0 ([],0,0) ⟨rfl,by simp,fun a ha=>nomatch ha⟩ (fun j st _ hj hI=>by
    obtain⟨l0,a0,s0⟩:=st;obtain⟨h1,h2,h3⟩:=hI;simp only at h1 h2 h3;obtain⟨v2,a2,s2,e2,hv2,hb1,hb2⟩:=jC code (seed:=s0) 2 (at':=a0) (by omega) (by decide);simp only;rw[e2,bnd_s,cK (by simp only[List.length_cons,List.length_nil];omega),bnd_s];refine⟨_,rfl,by simp only[List.length_append,List.length_singleton];omega,⟨by simp only;omega,by simp only;omega⟩,fun a ha=>?_⟩
    rcases List.mem_append.1 ha with ha | ha
    · exact h3 a ha
    · rw[List.mem_singleton] at ha
      rw[ha]
      exact hv2)
  rw[e1,thn_nx];exact⟨_,rfl,dN.2 ⟨by have:=i1.1;omega,i1.2.2⟩⟩
theorem class_ok (code:List UInt8):∃ p,spec_P6Pick code 6=some p∧0≤p∧p<6:=by
  unfold spec_P6Pick bQ
  rw[bnd_s];simp only;obtain⟨v,a,s,e,hv,_⟩:=jC code (seed:=0) 6 (at':=0) (by omega) (by decide);rw[e,bnd_s];exact⟨_,rfl,hv⟩
end Go.Proofs.YtgnfibiaaipibaaGreat
namespace Go.Proofs.YtgnfibiaaipibaaGreat
set_option linter.unusedVariables false
set_option linter.unusedSimpArgs false
theorem class_kinds {k:Int} (h1:1≤k) (h6:k≤6):k=1∨k=2∨k=3∨k=4∨k=5∨k=6:=by omega
theorem relA_all {r:Rel} (h:r∈R20):relB' 2 r=true∧(1≤r.arity∧r.arity≤2)∧r.tuples.length≤4∧(kept 1 r=true→constB 0 r=true)∧(kept 2 r=true→constB 1 r=true)∧(kept 3 r=true→minB false r=true)∧(kept 4 r=true→minB true r=true):=by
  have:=rel_R20 h
  unfold relA at this
  simp only[Bool.and_eq_true,Bool.or_eq_true,Bool.not_eq_true',decide_eq_true_iff] at this;obtain⟨⟨⟨⟨⟨⟨a,b⟩,c⟩,d⟩,e⟩,f⟩,g⟩:=this;have im:∀ {x y:Bool},x=false∨y=true→x=true→y=true:=fun h hx=>h.elim (fun e=>by rw[hx] at e;cases e) id;exact⟨a,b,c,im d,im e,im f,im g⟩
theorem min_of {b:Bool} {r:Rel} (h:minB b r=true) (ha:r.arity≤2):MinOk b r:=⟨ha,fun x z x' z' h1 h2=>by
  have:=List.all_eq_true.1 (List.all_eq_true.1 h _ h1) _ h2
  simpa using this⟩
theorem const_of {a:Int} {r:Rel} (h:constB a r=true) (hne:r.tuples≠[]):List.replicate r.arity.toNat a∈r.tuples:=by
  unfold constB at h
  rw[Bool.or_eq_true] at h
  rcases h with h | h
  · exact absurd (List.isEmpty_iff.1 h) hne
  · simpa using h
theorem const_sol {t:Template} {y:Instance} {a:Int} (ha:a=0∨a=1) (hv:1≤y.vars) (hC:∀ c∈y.cons,CV t y.vars c) (h:∀ r∈t.rels,List.replicate r.arity.toNat a∈r.tuples):Sol t y (List.replicate y.vars.toNat a):=by
  refine⟨by rw[List.length_replicate];omega,fun x hx=>by rw[List.eq_of_mem_replicate hx];omega,fun c hc=>?_⟩;obtain⟨hsc,r,r0,r1,r2,r3⟩:=hC c hc
  unfold conS
  rw[decide_eq_true_iff,List.getD_eq_getElem?_getD,r1]
  have e:atV (List.replicate y.vars.toNat a) c.scope=List.replicate r.arity.toNat a:=by
    rw[List.eq_replicate_iff];refine⟨by rw[at_len];omega,fun x hx=>?_⟩
    unfold atV at hx
    obtain⟨i,hi,rfl⟩:=List.mem_map.1 hx;have:=hsc i hi;rw[List.getD_eq_getElem?_getD,List.getElem?_replicate,if_pos (by omega)];rfl
  rw[e];exact h r r2
theorem evB_iff {n:Nat} {q u:List Int}:evB n q u=true↔Evn n q u:=by unfold evB Evn;exact decide_eq_true_iff
theorem eqA_all {r:Rel} (h:r∈R20):aG 2000 r=some (eqsL r)∧aK 2000 r=some (eqsL r)∧(eqsL r).length≤31∧(∀ q∈eqsL r,(q.length:Int)=r.arity+1∧aX q) ∧
    ∀ u∈aQ 2 r.arity.toNat,(u∈r.tuples→∀ q∈eqsL r,Evn r.arity.toNat q u)∧(kept 6 r=true→(∀ q∈eqsL r,Evn r.arity.toNat q u)→u∈r.tuples)∧cN 2 r u=some (decide (u∈r.tuples),0):=by
  have:=List.all_eq_true.1 eqA_ok r h
  unfold eqA at this
  simp only[Bool.and_eq_true,decide_eq_true_iff,beq_iff_eq] at this;obtain⟨⟨⟨⟨a,b⟩,c⟩,d⟩,e⟩:=this;refine⟨a,b,c,fun q hq=>?_,fun u hu=>?_⟩
  · have:=List.all_eq_true.1 d q hq
    rw[Bool.and_eq_true,decide_eq_true_iff] at this;refine⟨this.1,fun x hx=>?_⟩;have h2:=List.all_eq_true.1 this.2 x hx
    simpa using h2
  · have:=List.all_eq_true.1 e u hu
    simp only[Bool.and_eq_true,Bool.or_eq_true,Bool.not_eq_true',decide_eq_false_iff_not,decide_eq_true_iff,beq_iff_eq,List.all_eq_true,evB_iff,List.all_eq_false] at this;obtain⟨⟨h1,h2⟩,h3⟩:=this;refine⟨fun hm=>h1.resolve_left (fun h=>h hm),fun hk hq=>?_,h3⟩
    rcases h2 with (h2 | h2) | h2
    · rw[hk] at h2;cases h2
    · obtain⟨q,hq1,hq2⟩:=h2
      exact absurd (hq q hq1) (by simpa using hq2)
    · exact h2
theorem eq_of {r:Rel} (h:r∈R20) (hk:kept 6 r=true):EqOk 2000 r (eqsL r):=by
  obtain⟨a,b,c,d,e⟩:=eqA_all h;refine⟨a,b,c,d,fun u hl hb=>?_⟩
  have hn:u.length=r.arity.toNat:=by omega
  obtain⟨h1,h2,_⟩:=e u (dN.2 ⟨hn,fun a ha=>by have:=hb a ha;omega⟩);rw[hn];exact⟨h1,h2 hk⟩
theorem KT.few {k:Int} {t:Template} (h:KT k t):Few t:=⟨h.s,fun r hr=>(h.r r hr).1,h.n⟩
theorem KT.small {k:Int} {t:Template} (h:KT k t):smallT t:=fun r hr=>by have:=(relA_all (h.r r hr).1).2.2.1;omega
theorem KT.temp {k:Int} {t:Template} (h:KT k t):tempB t=true:=by
  unfold tempB
  rw[h.s,Bool.and_eq_true,Bool.and_eq_true,List.all_eq_true];refine⟨by decide,?_,fun r hr=>(relA_all (h.r r hr).1).1⟩;have:=h.n
  simp
  omega
theorem KT.tv {k:Int} {t:Template} (h:KT k t):TV 2 t:=by have:=tempB_TV h.small h.temp;rw[h.s] at this;exact this
theorem inst_of {t:Template} {x:Instance} (ht:tempB t=true) (hv:1≤x.vars∧x.vars≤5) (hn:x.cons.length≤6) (hC:∀ c∈x.cons,CV t x.vars c):instB t x=true:=by
  unfold instB
  rw[ht];simp only[Bool.true_and,Bool.and_eq_true,decide_eq_true_iff,List.all_eq_true];refine⟨by omega,by omega,fun c hc=>?_⟩;obtain⟨hsc,r,r0,r1,r2,r3⟩:=hC c hc;have:=(List.getElem?_eq_some_iff.1 r1).1
  unfold conB
  simp only[Bool.and_eq_true,decide_eq_true_iff,List.all_eq_true,beq_iff_eq];refine⟨by omega,by rw[List.getD_eq_getElem?_getD,r1];exact r3,fun i hi=>?_⟩;have:=hsc i hi
  unfold okV
  simp
  omega
theorem ones_loop {ρ : Type} : ∀ (m k : Nat) (s : List Int), s.length + m ≤ 1000 → zH (σ := (List Int)) (ρ := ρ) (fun (k49 : Nat) (s43 : (List Int)) =>
     xY (ap s43 ([1])) fun z60=>
     some (.go z60)) m k s=some (.nx (s++List.replicate m 1))
  | 0,k,s,_=>by simp [zH]
  | m+1,k,s,h=>by
    rw[eG (s':=s++[1]) (by rw[cK (by simp only[List.length_cons,List.length_nil];omega),bnd_s]),ones_loop m (k+1) _ (by rw[List.length_append,List.length_singleton];omega),List.append_assoc,List.replicate_succ]
    rfl
theorem By_two {t:Template} {y:Instance} {k:Int} (hT:KT k t) (hE:k≤2→∀ r∈t.rels,r.tuples≠[]) (hv:1≤y.vars∧y.vars≤10) (hy:y.cons.length≤24) (hC:∀ c∈y.cons,CV t y.vars c) (h1:1≤k) (h6:k≤6) :
    ∃ r,spec_l09By 2000 t y k=some r∧Ans t y r∧(vT (σ:=Bool) (ρ:=Out ((List Int)×Bool) ((List Int)×Int)) (
      if (k==1) then
       some (.nx (k==1))
      else
       some (.nx (k==2))) fun s217=>
     if s217 then
      xY (ck (k - 1)) fun z220=>
      xY (zU ([z220]) y.vars) fun z224=>
      some (.nx (z224,true))
     else
      vT (σ:=Bool) (
       if (k==3) then
        some (.nx (k==3))
       else
        some (.nx (k==4))) fun s233=>
      if s233 then
       xY (eT 2000 (Template.mk t.size t.rels) (Instance.mk y.vars y.cons) (k==4)) fun z236=>
       some (.nx (z236.1,z236.2))
      else
       if (k==5) then
        xY (fD 2000 (Template.mk t.size t.rels) (Instance.mk y.vars y.cons)) fun z242=>
        some (.nx (z242.1,z242.2))
       else
        xY (bO 2000 (Template.mk t.size t.rels) (Instance.mk y.vars y.cons)) fun z247=>
        some (.nx (z247.1,z247.2)))=some (.nx r):=by
  have hu:=hT.tv;have hAr:∀ r∈t.rels,r.arity≤2:=fun r hr=>(relA_all (hT.r r hr).1).2.1.2
  have rep:∀ a:Int,zU [a] y.vars=some (List.replicate y.vars.toNat a):=fun a=>by
    unfold zU
    rw[if_pos ⟨rfl,by omega,by omega⟩]
    rfl
  unfold spec_l09By
  rcases class_kinds h1 h6 with rfl | rfl | rfl | rfl | rfl | rfl
  · have hz:mkz (0:Int) y.vars=some (List.replicate y.vars.toNat 0):=by
      unfold mkz
      rw[if_pos ⟨by omega,by omega⟩]
    refine⟨(List.replicate y.vars.toNat 0,true),?_,⟨fun _=>const_sol (.inl rfl) hv.1 hC (fun r hr=>const_of ((relA_all (hT.r r hr).1).2.2.2.1 (hT.r r hr).2) (hE (by decide) r hr)),fun h=>nomatch h⟩,?_⟩
    · rw[if_pos (by rfl),hz,bnd_s]
    · have e:ck ((1:Int) - 1)=some 0:=rfl
      simp only[show((1:Int)==1)=true from rfl,if_true,thn_nx,e,bnd_s,rep]
  · refine⟨(List.replicate y.vars.toNat 1,true),?_,⟨fun _=>const_sol (.inr rfl) hv.1 hC (fun r hr=>const_of ((relA_all (hT.r r hr).1).2.2.2.2.1 (hT.r r hr).2) (hE (by decide) r hr)),fun h=>nomatch h⟩,?_⟩
    · rw[if_neg (by decide),if_pos (by rfl),ones_loop y.vars.toNat 0 [] (by simp only[List.length_nil];omega),thn_nx,List.nil_append]
    · have e:ck ((2:Int) - 1)=some 1:=rfl
      simp only[show((2:Int)==1)=false from rfl,show((2:Int)==2)=true from rfl,Bool.false_eq_true,if_false,if_true,thn_nx,e,bnd_s,rep]
  · obtain⟨r,r',e1,e2,rfl,_,hl⟩:=Least_two (N:=2000) false hu hv hC (fun r hr=>min_of ((relA_all (hT.r r hr).1).2.2.2.2.2.1 (hT.r r hr).2) (hAr r hr)) (by omega)
    have e1':eT 2000 (Template.mk t.size t.rels) (Instance.mk y.vars y.cons) false=some r:=e1;refine⟨r,?_,hl,?_⟩
    · simp only[show((3:Int)==1)=false from rfl,show((3:Int)==2)=false from rfl,show((3:Int)==3)=true from rfl,Bool.false_eq_true,if_false,if_true,e2,bnd_s]
    · simp only[show((3:Int)==1)=false from rfl,show((3:Int)==2)=false from rfl,show((3:Int)==3)=true from rfl,show((3:Int)==4)=false from rfl,Bool.false_eq_true,if_false,if_true,thn_nx,e1',bnd_s]
  · obtain⟨r,r',e1,e2,rfl,_,hl⟩:=Least_two (N:=2000) true hu hv hC (fun r hr=>min_of ((relA_all (hT.r r hr).1).2.2.2.2.2.2 (hT.r r hr).2) (hAr r hr)) (by omega)
    have e1':eT 2000 (Template.mk t.size t.rels) (Instance.mk y.vars y.cons) true=some r:=e1;refine⟨r,?_,hl,?_⟩
    · simp only[show((4:Int)==1)=false from rfl,show((4:Int)==2)=false from rfl,show((4:Int)==3)=false from rfl,show((4:Int)==4)=true from rfl,Bool.false_eq_true,if_false,if_true,e2,bnd_s]
    · simp only[show((4:Int)==1)=false from rfl,show((4:Int)==2)=false from rfl,show((4:Int)==3)=false from rfl,show((4:Int)==4)=true from rfl,Bool.false_eq_true,if_false,if_true,thn_nx,e1',bnd_s]
  · obtain⟨r,r',e1,e2,rfl,_,hl⟩:=byPairs_two (N:=2000) hu hv hy hC hAr (by omega)
    have e1':fD 2000 (Template.mk t.size t.rels) (Instance.mk y.vars y.cons)=some r:=e1;refine⟨r,?_,hl,?_⟩
    · simp only[show((5:Int)==1)=false from rfl,show((5:Int)==2)=false from rfl,show((5:Int)==3)=false from rfl,show((5:Int)==4)=false from rfl,show((5:Int)==5)=true from rfl,Bool.false_eq_true,if_false,if_true,e2,bnd_s]
    · simp only[show((5:Int)==1)=false from rfl,show((5:Int)==2)=false from rfl,show((5:Int)==3)=false from rfl,show((5:Int)==4)=false from rfl,show((5:Int)==5)=true from rfl,Bool.false_eq_true,if_false,if_true,thn_nx,e1',bnd_s]
  · obtain⟨r,r',e1,e2,rfl,_,hl⟩:=Solve_two (N:=2000) hu hT.s hv hy hC (fun r hr=>⟨_,eq_of (hT.r r hr).1 (hT.r r hr).2⟩) (by omega)
    have e1':bO 2000 (Template.mk t.size t.rels) (Instance.mk y.vars y.cons)=some r:=e1;refine⟨r,?_,hl,?_⟩
    · simp only[show((6:Int)==1)=false from rfl,show((6:Int)==2)=false from rfl,show((6:Int)==3)=false from rfl,show((6:Int)==4)=false from rfl,show((6:Int)==5)=false from rfl,Bool.false_eq_true,if_false,if_true,e2,bnd_s]
    · simp only[show((6:Int)==1)=false from rfl,show((6:Int)==2)=false from rfl,show((6:Int)==3)=false from rfl,show((6:Int)==4)=false from rfl,show((6:Int)==5)=false from rfl,Bool.false_eq_true,if_false,if_true,thn_nx,e1',bnd_s]
theorem Empty_eq (t:Template):eD t=some (t.rels.any fun r=>(r.tuples.length:Int)==0):=by
  unfold eD
  rw[aP (fun _ (r:Rel)=>if ((r.tuples.length:Int)==0) then some true else none) (fun j r hj=>by
    by_cases hr:((r.tuples.length:Int)==0)=true
    · rw[if_pos hr,if_pos hr];rfl
    · rw[if_neg hr,if_neg hr];rfl),fnd_any]
  cases t.rels.any (fun r=>(r.tuples.length:Int)==0)<;>rfl
theorem part_all {t:Template} (h:Few t):eJ 2000 t=some (clsL t,0)∧whyB t=true∧∀ k∈sixL,kZ t k=some 0∧iG t k=some 0∧dL 2000 t (opL k)=some (keptT k t)∧spec_l09Is 2000 t k=some (keptT k t):=by
  have:=few_part h
  unfold tPart at this
  simp only[Bool.and_eq_true,beq_iff_eq,List.all_eq_true] at this;exact⟨this.1.1,this.1.2,fun k hk=>let ⟨⟨⟨a,b⟩,c⟩,d⟩:=this.2 k hk;⟨a,b,c,d⟩⟩
theorem ops_eq:∀ k∈sixL,cI k=some (opL k)∧iF k=some (opL k)∧iV k=some (opL k,0)∧iK (opL k) (opL k)=some true:=by
  have h:(sixL.all fun k=>((cI k).map fun o=>(o.arity,o.table))==some ((opL k).arity,(opL k).table) && (((iF k).map fun o=>(o.arity,o.table))==some ((opL k).arity,(opL k).table)) && (((iV k).map fun z=>(z.1.arity,z.1.table,z.2))==some ((opL k).arity,(opL k).table,0)) && (iK (opL k) (opL k)==some true))=true:=by decide +kernel
  intro k hk;have:=List.all_eq_true.1 h k hk;simp only[Bool.and_eq_true,beq_iff_eq] at this;obtain⟨⟨⟨a,b⟩,c⟩,d⟩:=this;refine⟨?_,?_,?_,d⟩
  · obtain⟨o,h1,h2⟩:=Option.map_eq_some_iff.1 a
    cases o;cases ho:opL k;rw[ho] at h2;cases h2;exact h1
  · obtain⟨o,h1,h2⟩:=Option.map_eq_some_iff.1 b
    cases o;cases ho:opL k;rw[ho] at h2;cases h2;exact h1
  · obtain⟨⟨o,z⟩,h1,h2⟩:=Option.map_eq_some_iff.1 c
    cases o;cases ho:opL k;rw[ho] at h2;cases h2;exact h1
theorem Solve_ok {t:Template} {y:Instance} {k:Int} (hT:KT k t) (hk:k∈sixL) (hv:1≤y.vars∧y.vars≤5) (hn:y.cons.length≤6) (hC:∀ c∈y.cons,CV t y.vars c) :
    ∃ r,bW 2000 t y k=some r∧bZ 2000 t y k=some r∧((r.2=4∧k≤2)∨(r.2=0∧Sol t y r.1)∨(r.2=6∧∀ vs,¬ Sol t y vs)):=by
  have h16:1≤k∧k≤6:=by simp [sixL] at hk;omega
  obtain⟨i1,i2⟩:=inst_two (t:=t) (x:=y) hT.small;have hi:=inst_of hT.temp hv hn hC;obtain⟨_,_,hP⟩:=part_all hT.few;obtain⟨f2,f1,k3,k1⟩:=hP k hk;have hkT:keptT k t=true:=List.all_eq_true.2 fun r hr=>(hT.r r hr).2;rw[hkT] at k1 k3;have i1':gE (Template.mk t.size t.rels) (Instance.mk y.vars y.cons)=some (instB t y):=i1;have i2':kX (Template.mk t.size t.rels) (Instance.mk y.vars y.cons)=some (instB t y):=i2;have f1':iG (Template.mk t.size t.rels) k=some 0:=f1;have f2':kZ (Template.mk t.size t.rels) k=some 0:=f2;have k1':spec_l09Is 2000 (Template.mk t.size t.rels) k=some true:=k1;have k3':dL 2000 (Template.mk t.size t.rels) (Op.mk (opL k).arity (opL k).table)=some true:=k3;have em:eD (Template.mk t.size t.rels)=some (t.rels.any fun r=>(r.tuples.length:Int)==0):=Empty_eq t;have hnn:=containsR_eq t.rels (fun r=>(r.tuples.length:Int)==0) (fun a0=>gK a0) (fun r _=>rfl)
  unfold bW bZ
  rw[i1',i2',bnd_s,bnd_s];simp only[hi,Bool.not_true,Bool.false_eq_true,if_false];rw[f1',f2',bnd_s,bnd_s];simp only[show((0:Int) != 0)=false from rfl,Bool.false_eq_true,if_false];rw[k1',(ops_eq k hk).1,em,hnn];simp only[bnd_s];rw[k3'];obtain⟨E,hE⟩:∃ E:Bool,E=t.rels.any fun r=>(r.tuples.length:Int)==0:=⟨_,rfl⟩;rw[← hE];obtain⟨q,hq⟩:∃ q:Bool,q=(decide (k≤2) && E):=⟨_,rfl⟩
  have s1:(if (!true)=true then some (Out.nx (σ:=Bool) (ρ:=(List Int)×Int) true) else if (k==1)=true then some (.nx E) else if (k==2)=true then some (.nx E) else some (.nx false))=some (.nx q):=by
    rw[hq]
    rcases class_kinds h16.1 h16.2 with rfl | rfl | rfl | rfl | rfl | rfl<;>simp
  have s2:xY (some true) (fun z104=>if (!z104)=true then some (Out.nx (σ:=Bool) (ρ:=(List Int)×Int) true) else if decide (k≤2)=true then some (.nx E) else some (.nx false))=some (.nx q):=by
    rw[hq,bnd_s]
    rcases class_kinds h16.1 h16.2 with rfl | rfl | rfl | rfl | rfl | rfl<;>simp
  rw[s1,s2,thn_nx,thn_nx]
  cases q with
  | true=>
    refine⟨([],4),rfl,rfl,.inl ⟨rfl,?_⟩⟩;have:=hq.symm;rw[Bool.and_eq_true] at this
    simpa using this.1
  | false=>
    simp only[Bool.false_eq_true,if_false]
    obtain⟨r,b1,b3,b2⟩:=By_two (k:=k) (y:=y) hT (fun hk2 r hr he=>by
      have:E=true:=by rw[hE,List.any_eq_true];exact⟨r,hr,by rw[he];rfl⟩
      rw[this,decide_eq_true hk2] at hq
      cases hq) (by omega) (by omega) hC h16.1 h16.2
    have b1':spec_l09By 2000 (Template.mk t.size t.rels) (Instance.mk y.vars y.cons) k=some r:=b1;rw[b1',b2,bnd_s,thn_nx]
    cases hr:r.2 with
    | true=>
      refine⟨(r.1,0),?_,?_,.inr (.inl ⟨rfl,b3.1 hr⟩)⟩
      · simp [hr]
      · simp [hr]
    | false=>
      refine⟨([],6),?_,?_,.inr (.inr ⟨rfl,b3.2 hr⟩)⟩
      · simp [hr]
      · simp [hr]
end Go.Proofs.YtgnfibiaaipibaaGreat
namespace Go.Proofs.YtgnfibiaaipibaaGreat
set_option linter.unusedVariables false
set_option linter.unusedSimpArgs false
set_option maxRecDepth 100000
def eLoop (r : Rel) (u : List Int) : Option (Out Bool Bool) :=
        qJ (σ:=Bool) (ρ:=Bool) (fun(k436:Nat) (x438:(List Int)) (s434:Bool)=>
         xY (ix x438 r.arity) fun z447=>
         vT (σ:=Int) (
          zH (σ:=Int) (ρ:=(Ctl (Bool) Bool)) (fun(k482:Nat) (s478:Int)=>
           xY (ix x438 (k482:Int)) fun z492=>
           xY (ix u (k482:Int)) fun z497=>
           xY (ck (z492*z497)) fun z502=>
           xY (ck (s478+z502)) fun z504=>
           some (.go z504)) r.arity.toNat 0 z447) fun s480=>
         vT (σ:=Bool) (
          if s434 then  xY (rm s480 2) fun z514=>
           some (.nx (z514==0)) else  some (.nx false)) fun s512=>
         some (.go s512)) (eqsL r) 0 true
def tailB (r:Rel) (u:List Int):Bool:=match eLoop r u with
  | some (.nx b)=>(!decide (u∈r.tuples) || b) && (!kept 6 r || decide (u∈r.tuples)==b)
  | _=>false
theorem tail_all:(R20.all fun r=>(aQ 2 r.arity.toNat).all (tailB r))=true:=by decide +kernel
theorem tail_eq {r:Rel} {u:List Int} (hr:r∈R20) (hu:u∈aQ 2 r.arity.toNat):∃ b,eLoop r u=some (.nx b)∧(u∈r.tuples→b=true)∧(kept 6 r=true→decide (u∈r.tuples)=b):=by
  have h:=List.all_eq_true.1 (List.all_eq_true.1 tail_all r hr) u hu
  unfold tailB at h
  split at h
  · rename_i b e
    simp only[Bool.and_eq_true,Bool.or_eq_true,Bool.not_eq_true',decide_eq_false_iff_not,beq_iff_eq] at h;exact⟨b,e,fun hm=>h.1.resolve_left (fun h=>h hm),fun hk=>h.2.resolve_left (fun h=>by rw[hk] at h;cases h)⟩
  · cases h
theorem eqL_all {r:Rel} (h:r∈R20):bJ 2000 r=some (eqsL r,0)∧bM 2000 r=some (eqsL r,0)∧gF (eqsL r) (eqsL r)=some true:=by
  have:=List.all_eq_true.1 eqL_ok r h
  unfold eqL at this
  simp only[Bool.and_eq_true,beq_iff_eq] at this;exact⟨this.1.1,this.1.2,this.2⟩
theorem same_self (l:List Int):bL l l=some true:=by
  unfold bL
  rw[l00Same_eq,bnd_s,decide_eq_true rfl]
theorem why_loop {t:Template} (h:whyB t=true):∃ s,cF (wBody t (clsL t)) 2000 1=some (.nx s):=by
  unfold whyB at h
  split at h
  · rename_i s e
    exact⟨s,e⟩
  · cases h
theorem first_ok {t:Template} {y:Instance} {k:Int} (hT:KT k t) (hv:1≤y.vars∧y.vars≤5) (hn:y.cons.length≤6) (hC:∀ c∈y.cons,CV t y.vars c) :
    ∃ r,bN 2000 t y=some r∧((r.2=0∧∃ vs,Sol t y vs)∨(r.2=6∧∀ vs,¬ Sol t y vs)):=by
  have hu:=hT.tv;have hi:=inst_of hT.temp hv hn hC;have i1:gE (Template.mk t.size t.rels) (Instance.mk y.vars y.cons)=some (instB t y):=(inst_two (t:=t) (x:=y) hT.small).1;have s1:aR 2000 (Template.mk t.size t.rels) (Instance.mk y.vars y.cons) 1=_:=Solutions1_eq (N:=2000) hu (fun c hc=>cv_cw hu (hC c hc)) (by omega) (by omega) 1
  unfold bN
  rw[i1,hi,bnd_s,if_neg (by simp),s1,bnd_s]
  cases hf:dP t (fY 1 y) y.vars.toNat [] with
  | none=>exact⟨([],6),rfl,.inr ⟨rfl,fun vs hS=>by have:=sol_find hu hC hS;rw[hf] at this;cases this⟩⟩
  | some o=>exact⟨(o,0),rfl,.inl ⟨rfl,o,find_sol hu hC hv.1 hf⟩⟩
theorem fails_eq {N:Nat} {u:Template} {vs:List Int} {c:Con} (hu:TV 2 u) (h:CW u vs.length c) (hN:1100≤N):cW N c u vs=some (!conS u vs c):=by
  obtain⟨⟨h1,r,r0,r1,r2,r3⟩,h2⟩:=h;have e2:=chosen_eq (vs:=vs) h1 (by omega);obtain⟨m,_,_,_,hasc,_⟩:=hu.r r r2
  have hg:u.rels.getD c.rel.toNat default=r:=by rw[List.getD_eq_getElem?_getD,r1];rfl
  unfold cW conS
  rw[iM r0 r1,bnd_s,e2,bnd_s,hg];have:=has_eq (N:=N) (r:=r) (t:=atV vs c.scope) hasc (by have:=(hu.r r r2).len hu.t;omega) (by omega);rw[this,bnd_s]
theorem is_ok {t:Template} {y:Instance} {k:Int} {vs:List Int} (hT:KT k t) (hv:1≤y.vars∧y.vars≤5) (hn:y.cons.length≤6) (hC:∀ c∈y.cons,CV t y.vars c) (hS:Sol t y vs):cD 2000 t y vs=some (true,0):=by
  have hu:=hT.tv;have hi:=inst_of hT.temp hv hn hC;have i2:kX (Template.mk t.size t.rels) (Instance.mk y.vars y.cons)=some (instB t y):=(inst_two (t:=t) (x:=y) hT.small).2;have hl:=hS.1
  have a1:kW t.size vs y.vars=some true:=by
    rw[hT.s,areValues_s (by decide)]
    unfold areB
    rw[show((vs.length:Int)==y.vars)=true by simpa using hl,Bool.true_and]
    congr 1
    rw[List.all_eq_true];intro a ha;have:=hS.2.1 a ha
    unfold okV
    simp
    omega
  obtain⟨j,k1,k2⟩:=forL_idx y.cons (fun c=>!conS t vs c) (fun c=>cW 2000 c t vs) (fun c hc=>fails_eq hu (by rw[hl];exact cv_cw hu (hC c hc)) (by omega))
  have hj:j<0:=by
    have:y.cons.any (fun c=>!conS t vs c)=false:=by
      rw[List.any_eq_false];intro c hc;rw[hS.2.2 c hc]
      simp
    rw[this] at k2
    simpa using k2
  have k1':kB y.cons (fun a0=>cW 2000 a0 (Template.mk t.size t.rels) vs)=some j:=k1
  unfold cD fT impl_failing
  rw[i2,hi,bnd_s,if_neg (by simp),a1,bnd_s,if_neg (by simp),k1',bnd_s,bnd_s,bnd_s];simp only[show((0:Int)==0)=true from rfl,if_true,thn_nx,decide_eq_true hj]
theorem law_FnClasses (x y:List UInt8):laws_FnClasses 2000 x y=some true:=by
  unfold laws_FnClasses
  have hbig:∃ b:Bool,(xY (laws_f6big x) fun z20=>if z20 then some (Out.nx (σ:=Bool) (ρ:=Bool) true) else xY (laws_f6big y) fun z23=>some (.nx z23))=some (.nx b):=by
    unfold laws_f6big
    rw[bnd_s,bnd_s]
    split<;>exact⟨_,rfl⟩
  obtain⟨b,hb⟩:=hbig;rw[hb,thn_nx]
  cases b with
  | true=>rfl
  | false=>
    rw[if_neg (by simp)];obtain⟨p,hp,p0,p6⟩:=class_ok x;obtain⟨k,hk⟩:∃ k,1+p=k:=⟨_,rfl⟩
    have hk6:k∈sixL:=by
      have:k=1∨k=2∨k=3∨k=4∨k=5∨k=6:=by omega
      simpa [sixL] using this
    obtain⟨o1,o2,o3,o4⟩:=ops_eq k hk6
    have o2':dB k=some (Op.mk (opL k).arity (opL k).table):=by unfold dB;rw[o2,bnd_s]
    obtain⟨t,ht,hT⟩:=kept_ok y hk6;have ht':iJ 2000 y 2 (Op.mk (opL k).arity (opL k).table)=some t:=ht;obtain⟨X,hX,hv,hn,hC⟩:=inst_ok x hT;have hX':dE 2000 x (Template.mk t.size t.rels) 5=some X:=hX;obtain⟨c1,c2,c3⟩:=part_all hT.few;obtain⟨f2,f1,f3,f4⟩:=c3 k hk6;have hkT:keptT k t=true:=List.all_eq_true.2 fun r hr=>(hT.r r hr).2;rw[hkT] at f3;have c1':eJ 2000 (Template.mk t.size t.rels)=some (clsL t,0):=c1;have f2':kZ (Template.mk t.size t.rels) k=some 0:=f2;have f3':dL 2000 (Template.mk t.size t.rels) (Op.mk (opL k).arity (opL k).table)=some true:=f3
    have g1:gA 2000 (Template.mk t.size t.rels) k=some (true,0):=by
      unfold gA
      rw[f2',bnd_s,if_neg (by simp),o1,bnd_s,f3',bnd_s]
    have hin:(clsL t).any (· == k)=true:=List.any_eq_true.2 ⟨k,List.mem_filter.2 ⟨hk6,hkT⟩,by simp⟩
    have g2:cV (clsL t) k=some true:=by unfold cV;rw[l00Has_eq,bnd_s,hin]
    have o4':iK (Op.mk (opL k).arity (opL k).table) (Op.mk (opL k).arity (opL k).table)=some true:=o4;rw[hp,bnd_s,aJ (by omega) (by omega),bnd_s,hk,o2',bnd_s,ht',bnd_s,hX',bnd_s,c1',bnd_s,g1,bnd_s,o3,bnd_s];simp only[show((0:Int) != 0)=false from rfl,Bool.false_eq_true,if_false,g2,bnd_s,Bool.not_true,o4',thn_nx];obtain⟨s,hw⟩:=why_loop c2;have hw':=hw
    unfold wBody at hw'
    rw[hw',thn_nx];obtain⟨r,e1,e2,e3⟩:=Solve_ok hT hk6 hv hn hC;obtain⟨q,q1,q2⟩:=first_ok hT hv hn hC;have e1':bW 2000 (Template.mk t.size t.rels) (Instance.mk X.vars X.cons) k=some r:=e1;have e2':bZ 2000 (Template.mk t.size t.rels) (Instance.mk X.vars X.cons) k=some r:=e2;have q1':bN 2000 (Template.mk t.size t.rels) (Instance.mk X.vars X.cons)=some q:=q1;rw[e2',bnd_s,e1',bnd_s,q1',bnd_s];simp only[show(r.2 != r.2)=false by simp,Bool.false_eq_true,if_false,same_self,bnd_s,Bool.not_true,thn_nx]
    rcases e3 with ⟨h4,hk2⟩ | h
    · rw[h4,if_pos (by rfl),decide_eq_true hk2]
    · have hne:(r.2==4)=false:=by rcases h with h | h<;>rw[h.1]<;>rfl
      have hq:(r.2 != q.2)=false:=by
        rcases h with ⟨h1,h2⟩ | ⟨h1,h2⟩<;>rcases q2 with ⟨h3,h5⟩ | ⟨h3,h5⟩
        · rw[h1,h3];rfl
        · exact absurd h2 (h5 _)
        · obtain⟨vs,hS⟩:=h5
          exact absurd hS (h2 vs)
        · rw[h1,h3];rfl
      rw[hne,if_neg (by simp),hq,if_neg (by simp)]
      have hs:(if (r.2==0)=true then xY (cD 2000 (Template.mk t.size t.rels) (Instance.mk X.vars X.cons) r.1) fun z299=>
        vT (σ:=Bool) (
         if (z299.2 != 0) then  some (.nx true) else  some (.nx (!z299.1))) fun s307=>
        if s307 then
         some (.ret false)
        else
         some (.nx ())
       else
        some (Out.nx (σ:=Unit) (ρ:=Bool) ()))=some (.nx ()):=by
        rcases h with ⟨h1,h2⟩ | ⟨h1,h2⟩
        · have:=is_ok hT hv hn hC h2
          have this':cD 2000 (Template.mk t.size t.rels) (Instance.mk X.vars X.cons) r.1=some (true,0):=this;rw[h1,if_pos (by rfl),this',bnd_s]
          rfl
        · rw[h1];rfl
      rw[hs,thn_nx];have hn2:=hT.n;have hr0:t.rels[0]?=some (t.rels[0]'(by omega)):=List.getElem?_eq_getElem (by omega);obtain⟨R,hR⟩:∃ R,R=t.rels[0]'(by omega):=⟨_,rfl⟩;rw[← hR] at hr0
      have hRm:R∈t.rels:=by rw[hR];exact List.getElem_mem _
      obtain⟨hR20,hRk⟩:=hT.r R hRm;obtain⟨l1,l2,l3⟩:=eqL_all hR20;have l1':bJ 2000 (Rel.mk R.arity R.tuples)=some (eqsL R,0):=l1;have l2':bM 2000 (Rel.mk R.arity R.tuples)=some (eqsL R,0):=l2;obtain⟨u,u1,u2⟩:=tuple_ok y (ar_R20 hR20);have u3:cN 2 (Rel.mk R.arity R.tuples) u=some (decide (u∈R.tuples),0):=((eqA_all hR20).2.2.2.2 u u2).2.2;obtain⟨b,b1,b2,b3⟩:=tail_eq hR20 u2
      unfold eLoop at b1
      rw[iM (by omega) hr0,bnd_s,l1',bnd_s,l2',bnd_s];simp only[show((0:Int) != 0)=false from rfl,Bool.false_eq_true,if_false,l3,bnd_s,Bool.not_true,thn_nx,u1,u3,b1,show((0:Int)==0)=true from rfl,if_true]
      by_cases hm:u∈R.tuples
      · rw[decide_eq_true hm,b2 hm]
        by_cases h6:k=6
        · subst h6;rfl
        · have:(k != 6)=true:=by simpa using h6
          rw[this];rfl
      · rw[decide_eq_false hm]
        by_cases h6:k=6
        · subst h6
          have:=b3 hRk;rw[decide_eq_false hm] at this;rw[← this];rfl
        · have:(k != 6)=true:=by simpa using h6
          rw[this];rfl
end Go.Proofs.YtgnfibiaaipibaaGreat
