import Derived.Test.YtghihmkhdhjhiaaGreatDoorNJ
import Derived.Test.YtghihmkhdhjhiaaGreatDoorNC
namespace Go.Proofs.YtghihmkhdhjhiaaGreatDoor
set_option linter.unusedVariables false
set_option linter.unusedSimpArgs false
open Go.RowKit
section
variable {P:Program} {ops:Array Oper} {Q:Exit→Act→World→Prop} {a:Act} {w w0 w1:World} {n:Nat} {L:List (Nat×Value)} {rest:List Oper} {d:Nat} {ty:TypeId} {pos:String} {af:Array Edge} {g:Option (Nat×Bool)} {M N N1:Nat→Prop} {X:List Nat} {D:List As}
theorem xLk {α:Type} {sz:Nat} {R:ER α} [hR:FrC sz R] {x:Operand} {t:TypeId} {p:Value} {y:α} (hag:∀ w,(isAgg t).run P w= .ok true w) (hsz:∀ w,(sizeOf t).run P w= .ok sz w) (F:Sk a n L) (hc:kV ops n L g d=true) (he:ev L x=some p) (s:Sm M w1 w) (h:Pz M N w1 sz R p y)
    (k:∀ a' v,Bo N w1 (kJ sz R) v y→Sk a' n ((d,v)::L)→wpList P ops Q rest a' w):wpList P ops Q (⟨some d,.load t x,ty,pos,af,g⟩::rest) a w:=by
  obtain⟨b0,bi0,⟨⟨b,o,bi,rfl,hbs,hr⟩,hm⟩,hM,hN⟩:=h;obtain⟨rfl,rfl⟩:=List.cons.inj hbs;have ht:=hR.tot _ _ _ _ hr
  have hb:Bo N w1 (kJ sz R) (.agg ((List.range sz).map (fun j=>(w1.cell? ⟨b0,o+j,none⟩).getD undef)).toArray) y:=
    ⟨bi0,⟨kJ.of_cells hR.fr hr _ (by simp) (fun j hj=>by
      rw[List.getElem?_map,List.getElem?_range hj];obtain⟨u,hu,_⟩:=ht j hj;rw[Option.map_some,hu]
      rfl),fun c hc=>hm c (by simp [hc])⟩,hN⟩
  refine zA F hc ?_ (fun a' F'=>k a' _ hb F')
  unfold execOp
  simp only[F.ev he]
  have hl:=run_loadCells_list (P:=P) w ⟨b0,o,none⟩ ((List.range sz).map (fun j=>(w1.cell? ⟨b0,o+j,none⟩).getD undef)) (fun j v hj=>by
      rw[List.getElem?_map] at hj
      have hjs:j<sz:=by
        cases h:(List.range sz)[j]? with
        | none=>simp [h] at hj
        | some k=>simpa using (List.getElem?_eq_some_iff.1 h).1
      rw[List.getElem?_range hjs] at hj;obtain⟨u,hu,_⟩:=ht j hjs;have hadd:=cH b0 o j;rw[hadd,gG (s.blk b0 hM),hu];rw[Option.map_some,hu] at hj
      exact hj)
  rw[List.length_map,List.length_range] at hl
  simp [Instr.loadAt,Instr.sureAddr,loadVar,hag,hsz,hl]
theorem xKb {α:Type} {sz:Nat} {R:ER α} [hR:FrC sz R] {t e:TypeId} {z:Value} {x:Operand} {v:Value} {y:α} (ht:P.underlying t=some (.slice e)) (hsz:∀ w,(sizeOf e).run P w= .ok sz w) (hz:∀ w,(zeroValue e).run P w= .ok z w) (hzs:z.cells.size=sz) (hb:(Nat.blt 0 sz && Nat.ble sz 1000)=true) (F:Sk a n L) (hc:kV ops n L g d=true)
    (hx:ev L x=some v) (H:Sep X N w0 w D) (h1:∀ c,N1 c→N c) (h:Eo N1 w sz R v y)
    (k:∀ a' w' v',Sep X N w0 w' (rz N1 sz R e v' [y]::D)→Sk a' n ((d,v')::L)→wpList P ops Q rest a' w'):wpList P ops Q (⟨some d,.buildSlice t 1 #[(0,x)],ty,pos,af,g⟩::rest) a w:=by
  rw[Bool.and_eq_true] at hb;obtain⟨bs,h2,h3⟩:=h;exact xEt ht hsz hz hzs (Nat.le_of_ble_eq_true hb.1) (Nat.le_of_ble_eq_true hb.2) F hc hx h2 (fun a' w' v' rb r l F'=>k a' w' v' (H.push l (A:=rz N1 sz R e v' [y]) (Y0:=rb) ⟨rb,bs,r.base (Nat.zero_le _),fun _ hc=>hc,h3⟩ h1 (fun c hc=>⟨(r.blk c hc).1,r.memR c hc⟩)) F')
theorem oPz {α:Type} {sz:Nat} {R:ER α} [hR:FrC sz R] {x y:Operand} {t E E':TypeId} {z:Value} {bytes:Nat} {v u:Value} {l m r:List α} (ht:P.underlying t=some (.slice E)) (hinfo:(P.info? E).map (fun i=>(i.zero,i.size,i.bytes))=some (some z,sz,bytes)) (hzs:z.cells.size=sz) (hb:(Nat.blt 0 sz && (Nat.ble bytes 1024 && Nat.blt 0 bytes))=true)
    (F:Sk a n L) (hc:kV ops n L g d=true) (hx:ev L x=some v) (hy:ev L y=some u) (H:Sep X N w0 w (rz N1 sz R E v l::rz N1 sz R E' u m::D)) (hap:ap l m=some r)
    (k:∀ a' w' v',Sep X N w0 w' (rz N1 sz R E v' r::D)→Sk a' n ((d,v')::L)→wpList P ops Q rest a' w'):wpList P ops Q (⟨some d,.call ⟨.builtin .append,#[x,y],#[t,t]⟩,ty,pos,af,g⟩::rest) a w:=by
  simp only[Bool.and_eq_true] at hb;obtain⟨Y,⟨Y1,Y2,⟨rb,ib,r1,r2,r3⟩,⟨rb2,ib2,s1,s2,s3⟩,dj,y1,y2⟩,hN,hY,tr⟩:=H.mg.hd;have hN1:∀ c,N1 c→N c:=fun c hc=>hN c (.inl hc);refine yC ht hinfo hzs (Nat.le_of_ble_eq_true hb.1) (Nat.le_of_ble_eq_true hb.2.1) (Nat.le_of_ble_eq_true hb.2.2) F hc hx hy r1 s1.src (Nat.zero_le _) (fun c hc hc2=>(hY c (y1 c (r2 c hc))).2 (hN1 c (s3 c hc2))) hap (fun a' w' v' rb' q o hn F'=>k a' w' v' (tr (Z:=rb) (fun c hc=>y1 c (r2 c hc)) o (B:=rz N1 sz R E v' r) (Y1:=Y++rb') ⟨rb',ib++ib2,q,fun c hc=>List.mem_append_right _ hc,fun c hc=>?_⟩ hN1 (fun c hc=>?_)) F')
  · rcases List.mem_append.1 hc with hc | hc
    · exact r3 c hc
    · exact s3 c hc
  · rcases List.mem_append.1 hc with hc | hc
    · exact⟨.inl hc,Nat.lt_of_lt_of_le (hY c hc).1 o.size⟩
    · exact⟨xFh (w':=w') (fun c hc=>y1 c (r2 c hc)) hn hc,q.memR c hc⟩
end
end Go.Proofs.YtghihmkhdhjhiaaGreatDoor
