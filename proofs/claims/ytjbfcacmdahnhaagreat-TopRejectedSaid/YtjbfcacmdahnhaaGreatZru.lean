import Derived.Test.YtjbfcacmdahnhaaGreatZrt
set_option linter.unusedVariables false
set_option linter.unusedSimpArgs false
set_option linter.unusedSectionVars false
set_option maxRecDepth 100000
set_option maxHeartbeats 8000000
namespace Go.Proofs.YtjbfcacmdahnhaaGreat
section
open Go.RowKit
def rnC (d:Cfg):Cfg:={d with epochLen:=1}
def rnO:List Opn:=[⟨1,0,0,20⟩,tickO,⟨2,0,0,0⟩]++List.replicate 4 tickO
theorem rn_ck:checkF (rnC Cfg.deflt)=0:=by kernel_rfl
theorem rn_cf:CfOk (rnC Cfg.deflt):=cfOk_of rn_ck (by decide) (by decide)
theorem rn_ok:rnO.all okM=true:=by kernel_rfl
theorem rn_r:∀ o∈rnO,OpR o:=fun o ho=>by
 simp only[rnO,tickO,List.replicate,zc,zn,List.mem_cons,List.not_mem_nil,or_false] at ho
 rcases ho with rfl|rfl|rfl|rfl|rfl|rfl|rfl<;>exact⟨⟨by decide,by decide⟩,⟨by decide,by decide⟩,⟨by decide,by decide⟩⟩
theorem rn_k:∀ o∈rnO,I64 o.k:=fun o ho=>by
 simp only[rnO,tickO,List.replicate,zc,zn,List.mem_cons,List.not_mem_nil,or_false] at ho
 rcases ho with rfl|rfl|rfl|rfl|rfl|rfl|rfl<;>exact⟨by decide,by decide⟩
theorem rn_dec:decAll (encAll rnO) 0=rnO:=by
 have:=dec_enc rnO [] rn_r fun o ho=>List.all_eq_true.1 rn_ok o ho
 simpa using this
theorem rn_pd:(runM (rnC Cfg.deflt) St.ini rnO).2.pd=20:=by kernel_rfl
theorem rn_ep:epo (rnC Cfg.deflt) (runM (rnC Cfg.deflt) St.ini rnO).2=5:=by kernel_rfl
theorem rn_len:(encAll rnO).length≤100000:=by
 have:=encAll_le rnO fun o ho=>List.all_eq_true.1 rn_ok o ho
 have e:rnO.length=7:=rfl
 omega
theorem runs_spec (R:List Asn):Spec 9 [] R fun u L'=>u=.bool true∧L'=R:=by
 have hdf:=fun R=>default_spec R
 have htk:=fun R=>ticks_spec 4 (by decide) R
 have hen:=fun v R hg=>senc_spec v rnO R hg (by decide) fun o ho=>⟨rn_k o ho,rn_r o ho⟩
 have hrr:=fun h R hg=>rrun_spec (rnC Cfg.deflt) rn_cf rn_ck h (encAll rnO) rn_len (by rw[rn_dec];decide) (by rw[rn_dec];exact fun o ho=>⟨rn_k o ho,(rn_r o ho).2.2⟩) R hg
 simp only[rn_ok,if_true] at hen
 simp only[rn_dec] at hrr
 have f1:=rn_pd;have f2:=rn_ep
 have f3:(runM (rnC Cfg.deflt) St.ini rnO).1.length=7:=by rw[runM_len];rfl
 generalize runM (rnC Cfg.deflt) St.ini rnO=X at *
 obtain ⟨xr,s0⟩:=X
 simp only at f1 f2 f3 hrr
 have hlo:rnO.length=7:=rfl
 have hrn:[⟨1,0,0,20⟩,tickO,⟨2,0,0,0⟩]++List.replicate 4 tickO=rnO:=rfl
 generalize encAll rnO=E at *
 generalize Cfg.deflt=d at *
 refine zGz zk9 Tryz.func9 ?_;intro G;(repeat'(first|refine zA ?_;repeat intro nb|refine zC ?_;(first|refine kpW (k:=35) (hdf _) ?_|refine acW (k:=37) (htk _) ?_;rintro u L' ⟨th,rfl,rfl⟩|refine ac_appendH (f:=opL) (xs:=[⟨1,0,0,20⟩,tickO,⟨2,0,0,0⟩]) (ys:=List.replicate 4 tickO) rfl rfl inferInstance rfl rfl pullA inferInstance (gs_own pullA) rfl rfl (by decide) ?_;intro nv|refine acW (k:=36) (hen _ _ ?_) ?_;exact gs_own pullA;rintro u L' ⟨he,bs,⟨rfl,rfl⟩,rfl⟩)|refine zB ?_ ?_<;>intro hc<;>try exact no hc|refine zH ?_ ?_<;>(intro hg;rw[hg];try exact no hg)));all_goals try refine zO fun a w F M=>?_
 have gb:=bg_own M pullA
 (try refine zI zk9 F M ?_;clear F M a;try clear w);(repeat'(first|refine zA ?_;repeat intro nb|refine zC ?_;refine acW (k:=38) (hrr he _ ?_) ?_;(focus ((repeat (first|assumption|apply BG.tail));done));rintro u L' ⟨s,h0,xs,h1,h2,h3,h4,h5,h6,rfl,hx,rfl,rfl⟩|refine zB ?_ ?_<;>intro hc<;>try exact no hc|refine zH ?_ ?_<;>(intro hg;rw[hg];try exact no hg)));all_goals try refine zO fun a w F M=>?_
 have hxl:xs.length=7:=by rw[← f3,← hx,List.length_map]
 all_goals refine zE F M ?_
 all_goals exact⟨_,_,rfl,⟨by simp[tupOf,hxl],rfl⟩,M.perms permsA⟩
end
section
open Go.RowKit Go.Maps
instance mtRec:MT 130 3 129:=⟨by kernel_rfl,int_keyed (q:=.i64) (by kernel_rfl)⟩
instance zvRec:ZV 129 (.pointer none):=⟨by kernel_rfl⟩
structure Ex where
  cl:Int
  rq:Int
  dl:Int
  asg:Int
  sl:Int
  pd:Int
  am:Int
deriving DecidableEq
structure Rd where
  ex:Ex
  rd:Bool
  pays:List Pm
  asd:Bool
  sld:Bool
  fu:Bool
deriving DecidableEq
def r0:Rd:=⟨⟨0,0,0,-1,-1,-1,0⟩,false,[],false,false,false⟩
def recL (r:Rd) (h:SlH):List Value:=[.int .i64 r.ex.cl,.int .i64 r.ex.rq,.int .i64 r.ex.dl,.int .i64 r.ex.asg,.int .i64 r.ex.sl,.int .i64 r.ex.pd,.int .u64 r.ex.am,.bool r.rd,sl h,.bool r.asd,.bool r.sld,.bool r.fu]
abbrev recP (b:Nat) (r:Rd) (h:SlH):List Asn:=[pt b (recL r h) 136,ownT 57 pmL 3 (sl h) r.pays]
def recA (b:Nat) (r:Rd):Asn:=exA (recP b r)
abbrev AL:=List (Int × Nat × Rd)
def ptrs (al:AL):List (Value × Value):=al.map fun x=>(.int .i64 x.1,ptr x.2.1)
def recsA (al:AL):List Asn:=al.map fun x=>recA x.2.1 x.2.2
def restA (al:AL):Asn:=exA fun _:Unit=>recsA al
def abs (al:AL):List (Int × Rd):=al.map fun x=>(x.1,x.2.2)
def getR (i:Int):List (Int × Rd)→Rd
  | []=>r0
  | (j,r)::t=>if j=i then r else getR i t
def setR (i:Int) (r:Rd):List (Int × Rd)→List (Int × Rd)
  | []=>[(i,r)]
  | (j,q)::t=>if j=i then (j,r)::t else (j,q)::setR i r t
theorem abs_split (i:Int):∀ (al:AL),(∃ l1 b l2,al=l1++(i,b,getR i (abs al))::l2∧∀ r',abs (l1++(i,b,r')::l2)=setR i r' (abs al))∨((∀ x∈al,x.1≠i)∧getR i (abs al)=r0∧∀ b r',abs (al++[(i,b,r')])=setR i r' (abs al))
  | []=>.inr ⟨by simp,rfl,fun b r'=>rfl⟩
  | (j,b,r)::t=>by
    by_cases h:j=i
    · subst h
      exact .inl ⟨[],b,t,by simp[abs,getR],fun r'=>by simp[abs,setR]⟩
    · rcases abs_split i t with⟨l1,c,l2,h1,h2⟩|⟨h1,h2,h3⟩
      · refine .inl ⟨(j,b,r)::l1,c,l2,?_,fun r'=>?_⟩
        · have:getR i (abs ((j,b,r)::t))=getR i (abs t):=by simp[abs,getR,h]
          rw[this,zc,← h1]
        · have e:=h2 r'
          simp only[abs,zc,List.map_cons,setR,h,if_false] at e ⊢
          rw[e]
      · refine .inr ⟨fun x hx=>?_,by simpa[abs,getR,h] using h2,fun c r'=>?_⟩
        · rcases List.mem_cons.1 hx with rfl|hx
          · exact h
          · exact h1 x hx
        · have e:=h3 c r'
          simp only[abs,zc,List.map_cons,setR,h,if_false] at e ⊢
          rw[e]
theorem ptrs_last (al:AL) (i:Int) (b:Nat) (r:Rd):(Value.int .i64 i,ptr b)∈ptrs (al++[(i,b,r)]):=by simp[ptrs]
theorem ptrs_set (l1 l2:AL) (i:Int) (b:Nat) (r r':Rd):ptrs (l1++(i,b,r)::l2)=ptrs (l1++(i,b,r')::l2):=by simp[ptrs]
section
variable {w:World} {L:List Asn}
theorem rest_open {l1 l2:AL} {x:Int × Nat × Rd} (M:Mem w (restA (l1++x::l2)::L)):Mem w (recA x.2.1 x.2.2::restA (l1++l2)::L):=by
  obtain ⟨_,M⟩:=M.exo
  simp only[recsA,List.map_append,List.map_cons,List.append_assoc,zc] at M
  have M:=M.front
  rw[← List.append_assoc,← List.map_append] at M
  exact(Mem.exc (f:=fun _:Unit=>recsA (l1++l2)) () (L:=recA x.2.1 x.2.2::L) M.back).swap
theorem rest_close {l1 l2:AL} {x:Int × Nat × Rd} (M:Mem w (recA x.2.1 x.2.2::restA (l1++l2)::L)):Mem w (restA (l1++x::l2)::L):=by
  obtain ⟨_,M⟩:=M.swap.exo
  have M:=M.front
  rw[recsA,List.map_append,List.append_assoc] at M
  have M:=M.back
  refine Mem.exc (f:=fun _:Unit=>recsA (l1++x::l2)) () ?_
  simp only[recsA,List.map_append,List.map_cons,List.append_assoc,zc]
  exact M
theorem rest_nil (M:Mem w L):Mem w (restA []::L):=Mem.exc (f:=fun _:Unit=>recsA []) () M
end
theorem of_spec (b m:Nat) (t:TypeId) (cs:List Value) (i:Int) (hi:I64 i) (al:AL):Spec 104 [ptr b,.int .i64 i] [pt b (.map (some m)::cs) t,mp m 3 (ptrs al),restA al]
    fun u L'=>∃ l1 br l2 h,u=ptr br∧(∀ r',abs (l1++(i,br,r')::l2)=setR i r' (abs al))∧L'=[pt b (.map (some m)::cs) t,mp m 3 (ptrs (l1++(i,br,r0)::l2)),pt br (recL (getR i (abs al)) h) 136,ownT 57 pmL 3 (sl h) (getR i (abs al)).pays,restA (l1++l2)]:=by
  (intro G w M;refine sx_enter (vs:=[ptr b,.int .i64 i]) Tryz.func104 (n:=26) rfl rfl rfl rfl ?_;intro a F;(try simp only[zc,zn] at M))
  rcases abs_split i al with⟨l1,br,l2,h1,h2⟩|⟨h1,h2,h3⟩
  · have hin:(Value.int .i64 i,ptr br)∈ptrs al:=by rw[h1];simp[ptrs]
    (try refine zI zk104 F M ?_;clear F M a;try clear w);(repeat'(first|refine zA ?_;repeat intro b|refine zV (h:=⟨_,by(first|(apply rt_hit1;(exact rfl);(exact rfl);(exact rfl);(exact inferInstance);(exact gives_mp pullA);(exact intKey hi);(first|assumption|exact ptrs_last _ _ _ _))|(apply rt_miss1;(exact rfl);(exact rfl);(exact rfl);(exact inferInstance);(exact gives_mp pullA);(exact intKey hi);(assumption);(exact inferInstance))|(apply rt_nilp;(exact rfl);(exact rfl);(exact rfl);(exact inferInstance))),?_⟩)|refine zB ?_ ?_<;>intro hc<;>try exact no hc|refine zH ?_ ?_<;>(intro hg;rw[hg];try exact no hg)));all_goals try refine zO fun a w F M=>?_
    all_goals(first|(refine svEnd F M ?_)|(refine svRet F M ?_))
    have M:=M.perms (permsA:Perms _ (restA al::pt b (.map (some m)::cs) t::mp m 3 (ptrs al)::G))
    rw[h1] at M
    obtain ⟨h,M⟩:=(rest_open M).exo
    refine⟨_,_,rfl,⟨l1,br,l2,h,rfl,h2,rfl⟩,?_⟩
    rw[ptrs_set l1 l2 i br r0 (getR i (abs al))]
    try simp only[zc,zn] at M ⊢
    simp only[← h1] at M ⊢
    exact M.perms permsA
  · have hno:∀ p∈ptrs al,p.1≠.int .i64 i:=fun p hp=>by
      obtain ⟨x,hx,rfl⟩:=List.mem_map.1 hp
      have:=h1 x hx
      simpa using this
    (try refine zI zk104 F M ?_;clear F M a;try clear w);(repeat'(first|refine zA ?_;repeat intro b|refine zC ?_;refine ac_mapNew (P':=ptrs (al++[(i,_,r0)])) rfl rfl rfl rfl inferInstance (intKey hi) (by(repeat (first|exact Rep.here|apply Rep.there))) hno (by simpa[ptrs] using (List.perm_append_singleton _ _).symm) ?_|refine zV (h:=⟨_,by(first|(apply rt_hit1;(exact rfl);(exact rfl);(exact rfl);(exact inferInstance);(exact gives_mp pullA);(exact intKey hi);(first|assumption|exact ptrs_last _ _ _ _))|(apply rt_miss1;(exact rfl);(exact rfl);(exact rfl);(exact inferInstance);(exact gives_mp pullA);(exact intKey hi);(assumption);(exact inferInstance))|(apply rt_nilp;(exact rfl);(exact rfl);(exact rfl);(exact inferInstance))),?_⟩)|refine zB ?_ ?_<;>intro hc<;>try exact no hc|refine zH ?_ ?_<;>(intro hg;rw[hg];try exact no hg)));all_goals try refine zO fun a w F M=>?_
    all_goals(first|(refine svEnd F M ?_)|(refine svRet F M ?_))
    replace M:=rest_nil (M.own_nil 57 3)
    refine⟨_,_,rfl,⟨al,b,[],⟨none,0,0⟩,rfl,h3 _,rfl⟩,?_⟩
    rw[h2,List.append_nil]
    simp only[zc,zn]
    exact M.perms permsA
theorem rec_close {w:World} {L:List Asn} {l1 l2:AL} {i:Int} {br:Nat} {r:Rd} {h:SlH} (M:Mem w (pt br (recL r h) 136::ownT 57 pmL 3 (sl h) r.pays::restA (l1++l2)::L)):Mem w (restA (l1++(i,br,r)::l2)::L) :=
  rest_close (x:=(i,br,r)) (Mem.exc (f:=recP br r) h M)
def beginR (cl ep dl:Int) (r:Rd):Rd:=if r.rd=true then r else {r with rd:=true,ex:={r.ex with cl:=cl,rq:=ep,dl:=dl}}
def beginO (i:Int) (r:Rd) (o:List Int):List Int:=if r.rd=true then o else o++[i]
theorem begin_spec (b m:Nat) (v2 v3 v4:Value) (i cl:Int) (hi:I64 i) (al:AL) (o:List Int) (ord:SlH) (x:Rc) (s p:SlH) (hb:o.length≤5000000) :
    Spec 106 [ptr b,.int .i64 i,.int .i64 cl,rcV x s p] [pt b [.map (some m),sl ord,v2,v3,v4] 134,mp m 3 (ptrs al),ownT 3 intL 1 (sl ord) o,restA al]
    fun u L'=>u=.tuple #[]∧∃ al' ord',abs al'=setR i (beginR cl x.ep x.dl (getR i (abs al))) (abs al)∧L'=[pt b [.map (some m),sl ord',v2,v3,v4] 134,mp m 3 (ptrs al'),ownT 3 intL 1 (sl ord') (beginO i (getR i (abs al)) o),restA al']:=by
  (intro G w M;refine sx_enter (vs:=[ptr b,.int .i64 i,.int .i64 cl,rcV x s p]) Tryz.func106 (n:=46) rfl rfl rfl rfl ?_;intro a F;(try simp only[zc,zn] at M))
  obtain ⟨r,hr⟩:∃ r,getR i (abs al)=r:=⟨_,rfl⟩
  have hof:=of_spec b m 134 [sl ord,v2,v3,v4] i hi al
  rw[hr] at hof ⊢
  obtain ⟨⟨e1,e2,e3,e4,e5,e6,e7⟩,rd,ps,ra,rs,rf⟩:=r
  cases rd
  all_goals((try refine zI zk106 F M ?_;clear F M a;try clear w);(repeat'(first|refine zA ?_;repeat intro b|refine zC ?_;(first|refine acCall (k:=104) ?_;refine Spec.mono (Spec.pre (Spec.fr hof _) (by simp only[zc,zn];exact permsA)) ?_;rintro u L' ⟨L2,⟨l1,br,l2,h,rfl,hs,rfl⟩,rfl⟩;simp only[zc,zn]|refine ac_appendH (f:=intL) (xs:=o) (ys:=[i]) rfl rfl inferInstance rfl rfl (by(focus ((repeat (first|exact Pull.here|apply Pull.there));done))) inferInstance (gs_own (by(focus ((repeat (first|exact Pull.here|apply Pull.there));done)))) rfl rfl (by simp;omega) ?_;intro v')|refine zB ?_ ?_<;>intro hc<;>try exact no hc|refine zH ?_ ?_<;>(intro hg;rw[hg];try exact no hg)));all_goals try refine zO fun a w F M=>?_)
  · (first|(refine svEnd F M ?_)|(refine svRet F M ?_))
    have M:=rec_close (i:=i) (M.perms (permsA:Perms _ (pt br (recL ⟨⟨cl,x.ep,x.dl,e4,e5,e6,e7⟩,true,ps,ra,rs,rf⟩ h) 136::ownT 57 pmL 3 (sl h) ps::restA (l1++l2)::pt _ [.map (some m),sl v',v2,v3,v4] 134::mp m 3 (ptrs (l1++(i,br,r0)::l2))::ownT 3 intL 1 (sl v') (o++[i])::G)))
    rw[ptrs_set l1 l2 i br r0 ⟨⟨cl,x.ep,x.dl,e4,e5,e6,e7⟩,true,ps,ra,rs,rf⟩] at M
    exact⟨_,_,rfl,⟨rfl,_,v',hs _,rfl⟩,M.perms permsA⟩
  · (first|(refine svEnd F M ?_)|(refine svRet F M ?_))
    have M:=rec_close (i:=i) (M.perms (permsA:Perms _ (pt br (recL ⟨⟨e1,e2,e3,e4,e5,e6,e7⟩,true,ps,ra,rs,rf⟩ h) 136::ownT 57 pmL 3 (sl h) ps::restA (l1++l2)::pt _ [.map (some m),sl ord,v2,v3,v4] 134::mp m 3 (ptrs (l1++(i,br,r0)::l2))::ownT 3 intL 1 (sl ord) o::G)))
    rw[ptrs_set l1 l2 i br r0 ⟨⟨e1,e2,e3,e4,e5,e6,e7⟩,true,ps,ra,rs,rf⟩] at M
    exact⟨_,_,rfl,⟨rfl,_,ord,hs _,rfl⟩,M.perms permsA⟩
def hPayR (p:Pm) (ep:Int) (r:Rd):Rd:=if p.fl=true∧r.fu=false then {r with pays:=r.pays++[p],fu:=true,ex:={r.ex with pd:=ep,am:=p.am}} else {r with pays:=r.pays++[p]}
theorem hpay_spec (b m:Nat) (t:TypeId) (cs:List Value) (q:Pm) (ep:Int) (hi:I64 q.ix) (al:AL) (hb:(getR q.ix (abs al)).pays.length≤5000000) :
    Spec 105 [ptr b,.agg (pmL q).toArray,.int .i64 ep] [pt b (.map (some m)::cs) t,mp m 3 (ptrs al),restA al]
    fun u L'=>u=.tuple #[]∧∃ al',abs al'=setR q.ix (hPayR q ep (getR q.ix (abs al))) (abs al)∧L'=[pt b (.map (some m)::cs) t,mp m 3 (ptrs al'),restA al']:=by
  (intro G w M;refine sx_enter (vs:=[ptr b,.agg (pmL q).toArray,.int .i64 ep]) Tryz.func105 (n:=44) rfl rfl rfl rfl ?_;intro a F;(try simp only[zc,zn] at M))
  obtain ⟨r,hr⟩:∃ r,getR q.ix (abs al)=r:=⟨_,rfl⟩
  have hof:=of_spec b m t cs q.ix hi al
  rw[hr] at hof hb ⊢
  obtain ⟨⟨e1,e2,e3,e4,e5,e6,e7⟩,rd,ps,ra,rs,rf⟩:=r
  obtain ⟨i,am,fl⟩:=q
  try simp only at hof hb hr hi ⊢
  cases fl<;>cases rf
  all_goals((try refine zI zk105 F M ?_;clear F M a;try clear w);(repeat'(first|refine zA ?_;repeat intro b|refine zC ?_;(first|refine acCall (k:=104) ?_;refine Spec.mono (Spec.pre (Spec.fr hof _) (by simp only[zc,zn];exact permsA)) ?_;rintro u L' ⟨L2,⟨l1,br,l2,h,rfl,hs,rfl⟩,rfl⟩;simp only[zc,zn]|refine ac_appendH (f:=pmL) (xs:=ps) (ys:=[⟨i,am,_⟩]) rfl rfl inferInstance rfl rfl (by(focus ((repeat (first|exact Pull.here|apply Pull.there));done))) inferInstance (gs_own (by(focus ((repeat (first|exact Pull.here|apply Pull.there));done)))) rfl rfl (by simp;omega) ?_;intro v')|refine zB ?_ ?_<;>intro hc<;>try exact no hc|refine zH ?_ ?_<;>(intro hg;rw[hg];try exact no hg)));all_goals try refine zO fun a w F M=>?_)
  all_goals(first|(refine svEnd F M ?_)|(refine svRet F M ?_))
  all_goals first
    | (have M:=rec_close (i:=i) (M.perms (permsA:Perms _ (pt br (recL ⟨⟨e1,e2,e3,e4,e5,e6,e7⟩,rd,ps++[_],ra,rs,_⟩ v') 136::ownT 57 pmL 3 (sl v') (ps++[_])::restA (l1++l2)::pt _ (.map (some m)::cs) t::mp m 3 (ptrs (l1++(i,br,r0)::l2))::G)))
       rw[ptrs_set l1 l2 i br r0 _] at M
       exact⟨_,_,rfl,⟨rfl,_,hs _,rfl⟩,M.perms permsA⟩)
    | (have M:=rec_close (i:=i) (M.perms (permsA:Perms _ (pt br (recL ⟨⟨e1,e2,e3,e4,e5,ep,am⟩,rd,ps++[_],ra,rs,true⟩ v') 136::ownT 57 pmL 3 (sl v') (ps++[_])::restA (l1++l2)::pt _ (.map (some m)::cs) t::mp m 3 (ptrs (l1++(i,br,r0)::l2))::G)))
       rw[ptrs_set l1 l2 i br r0 _] at M
       exact⟨_,_,rfl,⟨rfl,_,hs _,rfl⟩,M.perms permsA⟩)
end
section
open Go.RowKit Go.Maps
structure HS where
  recs:List (Int × Rd)
  ord:List Int
  n:Int
  ep:Int
  asg:List Asg
deriving DecidableEq
structure Hh where
  m:Nat
  o:SlH
  a:SlH
  al:AL
abbrev logL (b:Nat) (q:HS) (h:Hh):List Asn:=[factA (abs h.al=q.recs),pt b [.map (some h.m),sl h.o,.int .i64 q.n,.int .i64 q.ep,sl h.a] 134,mp h.m 3 (ptrs h.al),ownT 3 intL 1 (sl h.o) q.ord,ownT 75 asgL 3 (sl h.a) q.asg,restA h.al]
def logA (b:Nat) (q:HS):Asn:=exA (logL b q)
def hAsg (y:Asg) (r:Rd):Rd:=if r.rd=true∧r.asd=false then {r with asd:=true,ex:={r.ex with asg:=y.ep}} else r
def slashR (ep:Int) (r:Rd):Rd:=if r.sld=true then r else {r with sld:=true,ex:={r.ex with sl:=ep}}
def addA (q:HS) (y:Asg):HS:={q with recs:=setR y.ix (hAsg y (getR y.ix q.recs)) q.recs,asg:=q.asg++[y]}
def addP (ep:Int) (q:HS) (y:Pm):HS:={q with recs:=setR y.ix (hPayR y ep (getR y.ix q.recs)) q.recs}
def addB (cl:Int) (x:Rc) (q:HS):HS:={q with recs:=setR x.ix (beginR cl x.ep x.dl (getR x.ix q.recs)) q.recs,ord:=beginO x.ix (getR x.ix q.recs) q.ord}
def addS (x:Rc) (q:HS):HS:={q with recs:=setR x.ix (slashR x.ep (getR x.ix q.recs)) q.recs}
def hAdd (k:Int) (x:Rc) (q:HS):HS :=
  if x.c≠0 then {q with n:=q.n+1}
  else
    let q3:=x.pms.foldl (addP x.ep) (x.asg.foldl addA {q with n:=q.n+1,ep:=x.ep})
    if k=2 then addB 1 x q3 else if k=4 then addB 0 x (addS x q3) else if k=3 then addB 0 x q3 else q3
structure HS.le (q:HS) (N:Nat):Prop where
  o:q.ord.length≤N
  a:q.asg.length≤N
  p:∀ i,(getR i q.recs).pays.length≤N
theorem getR_set (i j:Int) (r:Rd):∀ l:List (Int × Rd),getR i (setR j r l)=if j=i then r else getR i l
  | []=>by simp[setR,getR]
  | (k,u)::t=>by
    by_cases h:k=j
    · subst h
      by_cases h2:k=i
      · subst h2;simp[setR,getR]
      · simp[setR,getR,h2]
    · simp only[setR,h,if_false,getR]
      by_cases h2:k=i
      · subst h2;simp[Ne.symm h]
      · simp only[h2,if_false];exact getR_set i j r t
theorem le_addA {q:HS} {N:Nat} (h:q.le N) (y:Asg):(addA q y).le (N+1):=⟨by have:=h.o;simp only[addA];omega,by have:=h.a;simp[addA];omega,fun i=>by
  simp only[addA]
  rw[getR_set]
  split
  · unfold hAsg
    have:=h.p y.ix
    split<;>(try simp only)<;>omega
  · have:=h.p i;omega⟩
theorem le_addP {q:HS} {N:Nat} (h:q.le N) (ep:Int) (y:Pm):(addP ep q y).le (N+1):=⟨by have:=h.o;simp only[addP];omega,by have:=h.a;simp only[addP];omega,fun i=>by
  simp only[addP]
  rw[getR_set]
  split
  · unfold hPayR
    have:=h.p y.ix
    split<;>(simp;omega)
  · have:=h.p i;omega⟩
theorem le_addB {q:HS} {N:Nat} (h:q.le N) (cl:Int) (x:Rc):(addB cl x q).le (N+1):=⟨by have:=h.o;simp only[addB,beginO];split<;>(simp;omega),by have:=h.a;simp only[addB];omega,fun i=>by
  simp only[addB]
  rw[getR_set]
  split
  · unfold beginR
    have:=h.p x.ix
    split<;>(try simp only)<;>omega
  · have:=h.p i;omega⟩
theorem le_addS {q:HS} {N:Nat} (h:q.le N) (x:Rc):(addS x q).le N:=⟨h.o,h.a,fun i=>by
  simp only[addS]
  rw[getR_set]
  split
  · unfold slashR
    have:=h.p x.ix
    split<;>(try simp only)<;>omega
  · exact h.p i⟩
theorem le_foldA:∀ (l:List Asg) {q:HS} {N:Nat},q.le N→(l.foldl addA q).le (N+l.length)
  | [],q,N,h=>h
  | y::l,q,N,h=>by
    have:=le_foldA l (le_addA h y)
    rw[List.foldl_cons,List.length_cons,Nat.add_comm l.length 1,← Nat.add_assoc];exact this
theorem le_foldP (ep:Int):∀ (l:List Pm) {q:HS} {N:Nat},q.le N→(l.foldl (addP ep) q).le (N+l.length)
  | [],q,N,h=>h
  | y::l,q,N,h=>by
    have:=le_foldP ep l (le_addP h ep y)
    rw[List.foldl_cons,List.length_cons,Nat.add_comm l.length 1,← Nat.add_assoc];exact this
theorem HS.le.mono {q:HS} {N K:Nat} (h:q.le N) (hk:N≤K):q.le K:=⟨Nat.le_trans h.o hk,Nat.le_trans h.a hk,fun i=>Nat.le_trans (h.p i) hk⟩
theorem le_hAdd {k:Int} {x:Rc} {q:HS} {N:Nat} (h:q.le N):(hAdd k x q).le (N+x.asg.length+x.pms.length+1):=by
  unfold hAdd
  split
  · exact HS.le.mono (q:={q with n:=q.n+1}) ⟨h.o,h.a,h.p⟩ (by omega)
  · have h1:HS.le {q with n:=q.n+1,ep:=x.ep} N:=⟨h.o,h.a,h.p⟩
    have h2:=le_foldP x.ep x.pms (le_foldA x.asg h1)
    simp only
    split
    · exact le_addB h2 _ _
    · split
      · exact le_addB (le_addS h2 _) _ _
      · split
        · exact le_addB h2 _ _
        · exact h2.mono (by omega)
theorem foldl_take {α β:Type} (f:β→α→β) (z:β) {l:List α} {k:Nat} {y:α} (h:l[k]? = some y):(l.take (k+1)).foldl f z=f ((l.take k).foldl f z) y:=by
  rw[List.take_add_one,h];simp
theorem foldA_keep:∀ (l:List Asg) (q:HS),(l.foldl addA q).ord=q.ord∧(l.foldl addA q).n=q.n∧(l.foldl addA q).ep=q.ep
  | [],q=>⟨rfl,rfl,rfl⟩
  | y::l,q=>foldA_keep l (addA q y)
theorem foldP_keep (ep:Int):∀ (l:List Pm) (q:HS),(l.foldl (addP ep) q).ord=q.ord∧(l.foldl (addP ep) q).n=q.n∧(l.foldl (addP ep) q).ep=q.ep∧(l.foldl (addP ep) q).asg=q.asg
  | [],q=>⟨rfl,rfl,rfl,rfl⟩
  | y::l,q=>foldP_keep ep l (addP ep q y)
theorem log_close {w:World} {L:List Asn} {lb m:Nat} {o' a':SlH} {n ep:Int} {ord:List Int} {asg:List Asg} {al:AL} (M:Mem w (pt lb [.map (some m),sl o',.int .i64 n,.int .i64 ep,sl a'] 134::mp m 3 (ptrs al)::ownT 3 intL 1 (sl o') ord::ownT 75 asgL 3 (sl a') asg::restA al::L)) {q:HS} (hq:q=⟨abs al,ord,n,ep,asg⟩):Mem w (logA lb q::L):=by
  subst hq
  exact Mem.exc (f:=logL lb ⟨abs al,ord,n,ep,asg⟩) ⟨m,o',a',al⟩ (M.fact rfl)
theorem add_spec (lb:Nat) (q:HS) (k:Opn) (x:Rc) (s p:SlH) (R:List Asn) (hw:x.wf) (hg:RcG R x s p) (hn:0≤q.n∧q.n≤1000000) (hl:q.le 4000000) (h60:x.asg.length≤4096∧x.pms.length≤4096) :
    Spec 40 [ptr lb,.agg (opL k).toArray,rcV x s p] (logA lb q::R) fun u L'=>u=.tuple #[]∧L'=logA lb (hAdd k.k x q)::R:=by
  intro G w M
  obtain ⟨⟨m,ord,ash,al⟩,M⟩:=(show Mem w (logA lb q::(R++G)) from M).exo
  simp only[zc,zn] at M
  obtain ⟨hal,M⟩:=M.factO
  have g1:GS (R++G) 3 (sl s) x.asg.length (x.asg.flatMap asgL):=hg.a.imp fun w M=>M.drop_app
  have g2:GS (R++G) 3 (sl p) x.pms.length (x.pms.flatMap pmL):=hg.p.imp fun w M=>M.drop_app
  obtain ⟨hn1,hn2⟩:=hn
  obtain ⟨h60a,h60p⟩:=h60
  refine sx_enter (vs:=([ptr lb,.agg (opL k).toArray,rcV x s p]:List Value)) Tryz.func40 (n:=130) rfl rfl rfl rfl ?_
  intro a F
  by_cases hc0:x.c=0
  · (try refine zI zk40 F M ?_;clear F M a;try clear w);(repeat'(first|refine zA ?_;repeat intro b|refine zB ?_ ?_<;>intro hc<;>try exact no hc|refine zH ?_ ?_<;>(intro hg;rw[hg];try exact no hg)));all_goals try refine zO fun a w F M=>?_
    have hwa:=hw.asg
    have hwp:=hw.pms
    obtain ⟨q1,hq1⟩:∃ q1:HS,q1={q with n:=q.n+1,ep:=x.ep}:=⟨_,rfl⟩
    have hl1:q1.le 4000000:=by rw[hq1];exact⟨hl.o,hl.a,hl.p⟩
    refine svLoop F M ((0,al,ash):Nat × AL × SlH) (fun z=>[(32,.int .i64 z.1)]) (fun z=>[pt lb [.map (some m),sl ord,.int .i64 (q.n+1),.int .i64 x.ep,sl z.2.2] 134,mp m 3 (ptrs z.2.1),ownT 75 asgL 3 (sl z.2.2) ((x.asg.take z.1).foldl addA q1).asg,restA z.2.1])
      (fun z=>z.1≤x.asg.length∧abs z.2.1=((x.asg.take z.1).foldl addA q1).recs) (fun z=>x.asg.length - z.1) [] ⟨by simp,by rw[hq1];exact hal⟩ ?_ (hR:=by rw[hq1];(repeat (first|exact Pulls.nil|(apply Pulls.cons;(focus ((repeat (first|exact Pull.here|apply Pull.there));done))))))
    (rintro⟨j,al1,ash1⟩ ⟨z1,z2⟩ a w F M;(try simp only[zc,zn] at F M z1 z2 ⊢))
    by_cases hlt:j<x.asg.length
    · obtain ⟨y,hy⟩:∃ y,x.asg[j]? = some y:=⟨x.asg[j],by simp[hlt]⟩
      have hwy:=(hwa y (List.mem_of_getElem? hy)).1
      have hle:=le_foldA (x.asg.take j) hl1
      rw[List.length_take] at hle
      have hla:=hle.a
      obtain ⟨qa,hqa⟩:∃ qa,(x.asg.take j).foldl addA q1=qa:=⟨_,rfl⟩
      have hqs:(x.asg.take (j+1)).foldl addA q1=addA qa y:=by rw[foldl_take _ _ hy,hqa]
      rw[hqa] at M z2 hla
      obtain ⟨r,hr⟩:∃ r,getR y.ix (abs al1)=r:=⟨_,rfl⟩
      have hof:=of_spec lb m 134 [sl ord,.int .i64 (q.n+1),.int .i64 x.ep,sl ash1] y.ix hwy al1
      rw[hr] at hof
      (try refine zI zk40 F M ?_;clear F M a;try clear w);(repeat'(first|refine zA ?_;repeat intro b|refine zC ?_;(first|refine acCall (k:=104) ?_;refine Spec.mono (Spec.pre (Spec.fr hof _) (by simp only[zc,zn];exact permsA)) ?_;rintro u L' ⟨L2,⟨l1,br,l2,h,rfl,hs,rfl⟩,rfl⟩;simp only[zc,zn]|refine ac_appendH (f:=asgL) (xs:=qa.asg) (ys:=[y]) rfl rfl inferInstance rfl rfl (by(focus ((repeat (first|exact Pull.here|apply Pull.there));done))) inferInstance (gs_own (by(focus ((repeat (first|exact Pull.here|apply Pull.there));done)))) rfl rfl (by simp;omega) ?_;intro v')|refine zB ?_ ?_<;>intro hc<;>try exact no hc|refine zH ?_ ?_<;>(intro hg;rw[hg];try exact no hg)));all_goals try refine zO fun a w F M=>?_
      all_goals first
        | (have M:=rec_close (l1:=l1) (l2:=l2) (i:=y.ix) (br:=br) (r:=r) (h:=h) (M.perms permsA)
           have e:hAsg y r=r:=by simp_all [hAsg]
           rw[ptrs_set l1 l2 y.ix br r0 r] at M
           refine sv_again F M (j+1,l1++(y.ix,br,r)::l2,v') kpA (by rw[hqs];exact permsA) ⟨by simp only;omega,?_⟩ (by simp only;omega)
           simp only
           rw[hqs,hs,addA,← z2,hr,e])
        | (have M:=rec_close (l1:=l1) (l2:=l2) (i:=y.ix) (br:=br) (r:={r with asd:=true,ex:={r.ex with asg:=y.ep}}) (h:=h) (M.perms permsA)
           have e:hAsg y r={r with asd:=true,ex:={r.ex with asg:=y.ep}}:=by simp_all [hAsg]
           rw[ptrs_set l1 l2 y.ix br r0 {r with asd:=true,ex:={r.ex with asg:=y.ep}}] at M
           refine sv_again F M (j+1,l1++(y.ix,br,{r with asd:=true,ex:={r.ex with asg:=y.ep}})::l2,v') kpA (by rw[hqs];exact permsA) ⟨by simp only;omega,?_⟩ (by simp only;omega)
           simp only
           rw[hqs,hs,addA,← z2,hr,e])
    · have ej:x.asg.take j=x.asg:=List.take_of_length_le (by omega)
      rw[ej] at M z2
      obtain ⟨q2,hq2⟩:∃ q2,x.asg.foldl addA q1=q2:=⟨_,rfl⟩
      have hl2:=le_foldA x.asg hl1
      obtain ⟨k1,k2,k3⟩:=foldA_keep x.asg q1
      rw[hq2] at M z2 hl2 k1 k2 k3
      (try refine zI zk40 F M ?_;clear F M a;try clear w);(repeat'(first|refine zA ?_;repeat intro b|refine zC ?_;(first|refine acCall (k:=104) ?_;refine Spec.mono (Spec.pre (Spec.fr hof _) (by simp only[zc,zn];exact permsA)) ?_;rintro u L' ⟨L2,⟨l1,br,l2,h,rfl,hs,rfl⟩,rfl⟩;simp only[zc,zn]|refine ac_appendH (f:=asgL) (xs:=qa.asg) (ys:=[y]) rfl rfl inferInstance rfl rfl (by(focus ((repeat (first|exact Pull.here|apply Pull.there));done))) inferInstance (gs_own (by(focus ((repeat (first|exact Pull.here|apply Pull.there));done)))) rfl rfl (by simp;omega) ?_;intro v')|refine zB ?_ ?_<;>intro hc<;>try exact no hc|refine zH ?_ ?_<;>(intro hg;rw[hg];try exact no hg)));all_goals try refine zO fun a w F M=>?_
      refine svLoop F M ((0,al1):Nat × AL) (fun z=>[(76,.int .i64 z.1)]) (fun z=>[pt lb [.map (some m),sl ord,.int .i64 (q.n+1),.int .i64 x.ep,sl ash1] 134,mp m 3 (ptrs z.2),restA z.2])
        (fun z=>z.1≤x.pms.length∧abs z.2=((x.pms.take z.1).foldl (addP x.ep) q2).recs) (fun z=>x.pms.length - z.1) [] ⟨by simp,by simpa using z2⟩ ?_
      (rintro⟨j',al2⟩ ⟨y1,y2⟩ a w F M;(try simp only[zc,zn] at F M y1 y2 ⊢))
      by_cases hlt':j'<x.pms.length
      · obtain ⟨y,hy⟩:∃ y,x.pms[j']? = some y:=⟨x.pms[j'],by simp[hlt']⟩
        have hwy:=(hwp y (List.mem_of_getElem? hy)).1
        have hle:=(le_foldP x.ep (x.pms.take j') hl2).p y.ix
        rw[List.length_take,← y2] at hle
        have hps:=hpay_spec lb m 134 [sl ord,.int .i64 (q.n+1),.int .i64 x.ep,sl ash1] y x.ep hwy al2 (by omega)
        (try refine zI zk40 F M ?_;clear F M a;try clear w);(repeat'(first|refine zA ?_;repeat intro b|refine zC ?_;refine acCall (k:=105) ?_;refine Spec.mono (Spec.pre (Spec.fr hps _) (by simp only[zc,zn];exact permsA)) ?_;rintro u L' ⟨L2,⟨rfl,al3,hs,rfl⟩,rfl⟩;simp only[zc,zn]|refine zB ?_ ?_<;>intro hc<;>try exact no hc|refine zH ?_ ?_<;>(intro hg;rw[hg];try exact no hg)));all_goals try refine zO fun a w F M=>?_
        refine sv_again F M (j'+1,al3) kpA permsA ⟨by simp only;omega,?_⟩ (by simp only;omega)
        simp only
        rw[foldl_take _ _ hy,hs,y2];rfl
      · have ej':x.pms.take j'=x.pms:=List.take_of_length_le (by omega)
        rw[ej'] at y2
        obtain ⟨q3,hq3⟩:∃ q3,x.pms.foldl (addP x.ep) q2=q3:=⟨_,rfl⟩
        obtain ⟨m1,m2,m3,m4⟩:=foldP_keep x.ep x.pms q2
        have hl3:=le_foldP x.ep x.pms hl2
        rw[hq3] at y2 m1 m2 m3 m4 hl3
        have hof:=of_spec lb m 134 [sl ord,.int .i64 (q.n+1),.int .i64 x.ep,sl ash1] x.ix hw.ix al2
        have hob:q.ord.length≤5000000:=by have:=hl.o;omega
        have hb0:=fun al ord=>begin_spec lb m (.int .i64 (q.n+1)) (.int .i64 x.ep) (sl ash1) x.ix 0 hw.ix al q.ord ord x s p hob
        have hb1:=fun al ord=>begin_spec lb m (.int .i64 (q.n+1)) (.int .i64 x.ep) (sl ash1) x.ix 1 hw.ix al q.ord ord x s p hob
        have ho3:q3.ord=q.ord:=by rw[m1,k1,hq1]
        have hn3:q3.n=q.n+1:=by rw[m2,k2,hq1]
        have he3:q3.ep=x.ep:=by rw[m3,k3,hq1]
        have ha3:q3.asg=q2.asg:=m4
        have hR:hAdd k.k x q=(if k.k=2 then addB 1 x q3 else if k.k=4 then addB 0 x (addS x q3) else if k.k=3 then addB 0 x q3 else q3):=by
          rw[hAdd,if_neg (by simpa using hc0),← hq3,← hq2,hq1]
        have hq3e:q3=⟨abs al2,q.ord,q.n+1,x.ep,q2.asg⟩:=by rw[y2,← ho3,← hn3,← he3,← ha3]
        have hend:∀ {w:World} {al:AL} {ord':SlH} {o:List Int} {K:List Asn},Mem w K→Perms K (pt lb [.map (some m),sl ord',.int .i64 (q.n+1),.int .i64 x.ep,sl ash1] 134::mp m 3 (ptrs al)::ownT 3 intL 1 (sl ord') o::ownT 75 asgL 3 (sl ash1) q2.asg::restA al::(R++G))→∀ q':HS,q'=⟨abs al,o,q.n+1,x.ep,q2.asg⟩→∃ v L',Ending.returned (.tuple #[])=Ending.returned v∧(v=.tuple #[]∧L'=logA lb q'::R)∧Mem w (L'++G) :=
          fun M hp _ h=>⟨_,_,rfl,⟨rfl,rfl⟩,log_close (M.perms hp) h⟩
        by_cases h2:k.k=2
        · rw[if_pos h2] at hR
          (try refine zI zk40 F M ?_;clear F M a;try clear w);(repeat'(first|refine zA ?_;repeat intro b|refine zC ?_;refine acCall (k:=106) ?_;refine Spec.mono (Spec.pre (Spec.fr (hb1 al2 ord) _) (by simp only[zc,zn];exact permsA)) ?_;rintro u L' ⟨L2,⟨rfl,al4,ord',hs,rfl⟩,rfl⟩;simp only[zc,zn]|refine zB ?_ ?_<;>intro hc<;>try exact no hc|refine zH ?_ ?_<;>(intro hg;rw[hg];try exact no hg)));all_goals try refine zO fun a w F M=>?_
          all_goals(first|(refine svEnd F M ?_)|(refine svRet F M ?_))
          exact hend M permsA _ (by rw[hR,hq3e,addB,hs])
        · rw[if_neg h2] at hR
          by_cases h4:k.k=4
          · rw[if_pos h4] at hR
            obtain ⟨r,hr⟩:∃ r,getR x.ix (abs al2)=r:=⟨_,rfl⟩
            rw[hr] at hof
            have hbk:∀ {l1 l2:AL} {br:Nat} {h:SlH} {r':Rd},r'=slashR x.ep r→(∀ r',abs (l1++(x.ix,br,r')::l2)=setR x.ix r' (abs al2))→Spec 106 [ptr lb,.int .i64 x.ix,.int .i64 0,rcV x s p] [pt br (recL r' h) 136,ownT 57 pmL 3 (sl h) r'.pays,restA (l1++l2),pt lb [.map (some m),sl ord,.int .i64 (q.n+1),.int .i64 x.ep,sl ash1] 134,mp m 3 (ptrs (l1++(x.ix,br,r0)::l2)),ownT 3 intL 1 (sl ord) q.ord]
                fun u L'=>u=.tuple #[]∧∃ al5 o5 ord',hAdd k.k x q=⟨abs al5,o5,q.n+1,x.ep,q2.asg⟩∧L'=[pt lb [.map (some m),sl ord',.int .i64 (q.n+1),.int .i64 x.ep,sl ash1] 134,mp m 3 (ptrs al5),ownT 3 intL 1 (sl ord') o5,restA al5]:=by
              rintro l1 l2 br h r' rfl hs G w M
              have M:=rec_close (i:=x.ix) M
              rw[ptrs_set l1 l2 x.ix br r0 (slashR x.ep r)] at M
              have e4:abs (l1++(x.ix,br,slashR x.ep r)::l2)=(addS x q3).recs:=by rw[hs,addS,← y2,hr]
              refine(hb0 _ ord G w (M.perms permsA)).mono ?_
              rintro e w' ⟨v,L',e1,⟨e2,al5,ord',hs5,e3⟩,M'⟩
              refine⟨v,L',e1,⟨e2,al5,_,ord',?_,e3⟩,M'⟩
              rw[hR,addB,← e4,← hs5,← ho3,← hn3,← he3,← ha3];rfl
            have es1:r.sld=false→slashR x.ep r={r with sld:=true,ex:={r.ex with sl:=x.ep}}:=fun h=>by simp[slashR,h]
            have es2:r.sld=true→slashR x.ep r=r:=fun h=>by simp[slashR,h]
            (try refine zI zk40 F M ?_;clear F M a;try clear w);(repeat'(first|refine zA ?_;repeat intro b|refine zC ?_;(first|refine acCall (k:=104) ?_;refine Spec.mono (Spec.pre (Spec.fr hof _) (by simp only[zc,zn];exact permsA)) ?_;rintro u L' ⟨L2,⟨l1,br,l2,h,rfl,hs,rfl⟩,rfl⟩;simp only[zc,zn]|refine acCall (k:=106) ?_;refine Spec.mono (Spec.pre (Spec.fr (hbk (l1:=l1) (l2:=l2) (br:=br) (h:=h) (r':={r with sld:=true,ex:={r.ex with sl:=x.ep}}) (es1 ‹r.sld=false›).symm hs) _) (by simp only[zc,zn];exact permsA)) ?_;rintro u L' ⟨L2,⟨rfl,al5,o5,ord',h5,rfl⟩,rfl⟩;simp only[zc,zn]|refine acCall (k:=106) ?_;refine Spec.mono (Spec.pre (Spec.fr (hbk (l1:=l1) (l2:=l2) (br:=br) (h:=h) (r':=r) (es2 ‹r.sld=true›).symm hs) _) (by simp only[zc,zn];exact permsA)) ?_;rintro u L' ⟨L2,⟨rfl,al5,o5,ord',h5,rfl⟩,rfl⟩;simp only[zc,zn])|refine zB ?_ ?_<;>intro hc<;>try exact no hc|refine zH ?_ ?_<;>(intro hg;rw[hg];try exact no hg)));all_goals try refine zO fun a w F M=>?_
            all_goals(first|(refine svEnd F M ?_)|(refine svRet F M ?_))
            all_goals exact hend M permsA _ h5
          · rw[if_neg h4] at hR
            by_cases h3:k.k=3
            · rw[if_pos h3] at hR
              (try refine zI zk40 F M ?_;clear F M a;try clear w);(repeat'(first|refine zA ?_;repeat intro b|refine zC ?_;refine acCall (k:=106) ?_;refine Spec.mono (Spec.pre (Spec.fr (hb0 al2 ord) _) (by simp only[zc,zn];exact permsA)) ?_;rintro u L' ⟨L2,⟨rfl,al4,ord',hs,rfl⟩,rfl⟩;simp only[zc,zn]|refine zB ?_ ?_<;>intro hc<;>try exact no hc|refine zH ?_ ?_<;>(intro hg;rw[hg];try exact no hg)));all_goals try refine zO fun a w F M=>?_
              all_goals(first|(refine svEnd F M ?_)|(refine svRet F M ?_))
              exact hend M permsA _ (by rw[hR,hq3e,addB,hs])
            · rw[if_neg h3] at hR
              (try refine zI zk40 F M ?_;clear F M a;try clear w);(repeat'(first|refine zA ?_;repeat intro b|refine zC ?_;refine acCall (k:=106) ?_;refine Spec.mono (Spec.pre (Spec.fr (hb0 al2 ord) _) (by simp only[zc,zn];exact permsA)) ?_;rintro u L' ⟨L2,⟨rfl,al4,ord',hs,rfl⟩,rfl⟩;simp only[zc,zn]|refine zB ?_ ?_<;>intro hc<;>try exact no hc|refine zH ?_ ?_<;>(intro hg;rw[hg];try exact no hg)));all_goals try refine zO fun a w F M=>?_
              all_goals(first|(refine svEnd F M ?_)|(refine svRet F M ?_))
              exact hend M permsA _ (by rw[hR,hq3e])
  · (try refine zI zk40 F M ?_;clear F M a;try clear w);(repeat'(first|refine zA ?_;repeat intro b|refine zC ?_;refine acCall (k:=106) ?_;refine Spec.mono (Spec.pre (Spec.fr (hb0 al2 ord) _) (by simp only[zc,zn];exact permsA)) ?_;rintro u L' ⟨L2,⟨rfl,al4,ord',hs,rfl⟩,rfl⟩;simp only[zc,zn]|refine zB ?_ ?_<;>intro hc<;>try exact no hc|refine zH ?_ ?_<;>(intro hg;rw[hg];try exact no hg)));all_goals try refine zO fun a w F M=>?_
    all_goals(first|(refine svEnd F M ?_)|(refine svRet F M ?_))
    refine⟨_,_,rfl,⟨rfl,rfl⟩,?_⟩
    rw[hAdd,if_pos hc0]
    have M:=M.perms (permsA:Perms _ (pt lb [.map (some m),sl ord,.int .i64 (q.n+1),.int .i64 q.ep,sl ash] 134::mp m 3 (ptrs al)::ownT 3 intL 1 (sl ord) q.ord::ownT 75 asgL 3 (sl ash) q.asg::restA al::(R++G)))
    exact Mem.exc (f:=logL lb {q with n:=q.n+1}) ⟨m,ord,ash,al⟩ (M.fact hal)
end
section
open Go.RowKit Go.Maps
theorem new_spec:Spec 39 [] [] fun u L'=>∃ lb,u=ptr lb∧L'=[logA lb ⟨[],[],0,0,[]⟩]:=by
 (intro G w M;refine sx_enter (vs:=[]) Tryz.func39 (n:=5) rfl rfl rfl rfl ?_;intro a F;(try simp only[zc,zn] at M))
 (try refine zI zk39 F M ?_;clear F M a;try clear w);(repeat'(first|refine zA ?_;repeat intro b|refine zC ?_;refine ac_makeMap rfl inferInstance ?_;intro b0|refine zB ?_ ?_<;>intro hc<;>try exact no hc|refine zH ?_ ?_<;>(intro hg;rw[hg];try exact no hg)));all_goals try refine zO fun a w F M=>?_
 all_goals(first|(refine svEnd F M ?_)|(refine svRet F M ?_))
 refine⟨_,_,rfl,⟨b,rfl,rfl⟩,?_⟩
 replace M:=rest_nil ((M.own_nil 3 1).own_nil 75 3)
 refine log_close (m:=b0) (o':=⟨none,0,0⟩) (a':=⟨none,0,0⟩) (n:=0) (ep:=0) (ord:=[]) (asg:=[]) (al:=[]) ?_ rfl
 exact M.perms permsA
end
section
open Go.RowKit
theorem actv_take (V:List Val) (h0:∀ x∈bals V,0≤x) (k:Nat):0≤actv (V.take k)∧actv (V.take k)≤actv V:=by
 have e:actv V=actv (V.take k)+actv (V.drop k):=by
  conv=>lhs;rw[← List.take_append_drop k V]
  unfold actv bals
  rw[List.filter_append,List.map_append,sum_app]
 have h1:=actv_le (V.take k) fun x hx=>h0 x (by unfold bals at hx ⊢;rw[List.map_take] at hx;exact List.mem_of_mem_take hx)
 have h2:=actv_le (V.drop k) fun x hx=>h0 x (by unfold bals at hx ⊢;rw[List.map_drop] at hx;exact List.mem_of_mem_drop hx)
 omega
section
variable (V:List Val) (v:Value) (R:List Asn) (hg:GS R 7 v V.length (V.flatMap valL)) (hlen:V.length≤1000000)
include hg hlen
theorem rput_spec (i:Nat) (x old:Val) (hi:V[i]? = some old):Spec 146 [v,.int .i64 i,valV x] R fun u L'=>∃ h,u=sl h∧L'=ownT 62 valL 7 (sl h) (V.set i x)::R:=by
 have hil:i<V.length:=(List.getElem?_eq_some_iff.1 hi).1
 refine zGo Tryz.func146 ?_;intro G w M a F
 have hG:GS (R++G) 7 v V.length (V.flatMap valL):=Gives.app hg
 (try refine zI zk146 F M ?_;clear F M a;try clear w);(repeat'(first|refine zA ?_;repeat intro nb|refine zC ?_;(first|refine ac_appendE (f:=valL) (ys:=V) rfl rfl inferInstance rfl rfl pullA inferInstance gsA rfl rfl (by simp;omega) ?_;intro nv|refine ac_storeEA (f:=valL) (v:=sl nv) (j:=i) (k:=7) rfl rfl inferInstance x rfl hi inferInstance (by(focus ((repeat (first|exact Rep.here|apply Rep.there));done))) ?_)|refine zB ?_ ?_<;>intro hc<;>try exact no hc|refine zH ?_ ?_<;>(intro hg;rw[hg];try exact no hg)));all_goals try refine zO fun a w F M=>?_
 (all_goals(refine zE F M ?_;exact⟨_,_,rfl,⟨nv,rfl,rfl⟩,M.perms permsA⟩))
theorem ractive_spec (h0:∀ x∈bals V,0≤x) (hs:actv V≤18446744073709551615):Spec 62 [v] R fun u L'=>u=.int .u64 (actv V)∧L'=R:=by
 have hat:=actv_take V h0
 refine zGo Tryz.func62 ?_;intro G w M a F
 have hG:GS (R++G) 7 v V.length (V.flatMap valL):=Gives.app hg
 (try refine zI zk62 F M ?_;clear F M a;try clear w);(repeat'(first|refine zA ?_;repeat intro nb|refine zB ?_ ?_<;>intro hc<;>try exact no hc|refine zH ?_ ?_<;>(intro hg;rw[hg];try exact no hg)));all_goals try refine zO fun a w F M=>?_
 refine svLoop F M (0:Nat) (fun k=>[(4,.int .i64 k),(3,.int .u64 (actv (V.take k)))]) (fun _=>[]) (fun k=>k≤V.length) (fun k=>V.length - k) [] (Nat.zero_le _) ?_
 (rintro k q1 a w F M;(try simp only[zc,zn] at F M q1 ⊢))
 by_cases hlt:k<V.length
 ·obtain ⟨x,hx⟩:∃ x,V[k]? = some x:=⟨V[k],by simp[hlt]⟩
  have hlv:=fun R=>rlive_spec x.st R
  rw[show(decide (x.st=2) || decide (x.st=3))=x.live from rfl] at hlv
  have ht:actv (V.take (k+1))=actv (V.take k)+(if x.live=true then x.bal else 0):=by
   unfold actv bals
   rw[List.take_add_one,hx,List.filter_append];cases hp:x.live<;>simp[hp]
  have hx0:0≤x.bal:=h0 _ (List.mem_of_getElem? (bals_get hx))
  have ha:=hat k
  have hb:=hat (k+1)
  cases hp:x.live
  all_goals rw[hp] at hlv ht
  ·rw[if_neg (by decide),Int.add_zero] at ht
   (try refine zI zk62 F M ?_;clear F M a;try clear w);(repeat'(first|refine zA ?_;repeat intro nb|refine zC ?_;refine kpW (k:=120) (hlv _) ?_|refine zB ?_ ?_<;>intro hc<;>try exact no hc|refine zH ?_ ?_<;>(intro hg;rw[hg];try exact no hg)));all_goals try refine zO fun a w F M=>?_
   rw[← ht] at F
   exact sv_again F M (k+1) kpA permsA (by omega) (by omega)
  ·rw[if_pos rfl] at ht
   (try refine zI zk62 F M ?_;clear F M a;try clear w);(repeat'(first|refine zA ?_;repeat intro nb|refine zC ?_;refine kpW (k:=120) (hlv _) ?_|refine zB ?_ ?_<;>intro hc<;>try exact no hc|refine zH ?_ ?_<;>(intro hg;rw[hg];try exact no hg)));all_goals try refine zO fun a w F M=>?_
   rw[← ht] at F
   exact sv_again F M (k+1) kpA permsA (by omega) (by omega)
 ·obtain rfl:k=V.length:=by omega
  rw[List.take_length] at F
  (try refine zI zk62 F M ?_;clear F M a;try clear w);(repeat'(first|refine zA ?_;repeat intro nb|refine zB ?_ ?_<;>intro hc<;>try exact no hc|refine zH ?_ ?_<;>(intro hg;rw[hg];try exact no hg)));all_goals exact zXz
theorem rsame7_spec (v2:Value) (hg2:GS R 7 v2 V.length (V.flatMap valL)):Spec 61 [v,v2] R fun u L'=>u=.bool true∧L'=R:=by
 refine zGo Tryz.func61 ?_;intro G w M a F
 have hG:GS (R++G) 7 v V.length (V.flatMap valL):=Gives.app hg
 have hH:GS (R++G) 7 v2 V.length (V.flatMap valL):=Gives.app hg2
 (try refine zI zk61 F M ?_;clear F M a;try clear w);(repeat'(first|refine zA ?_;repeat intro nb|refine zB ?_ ?_<;>intro hc<;>try exact no hc|refine zH ?_ ?_<;>(intro hg;rw[hg];try exact no hg)));all_goals try refine zO fun a w F M=>?_
 refine svLoop F M (0:Nat) (fun k=>[(5,.int .i64 k)]) (fun _=>[]) (fun k=>k≤V.length) (fun k=>V.length - k) [] (Nat.zero_le _) ?_
 (rintro k q1 a w F M;(try simp only[zc,zn] at F M q1 ⊢))
 by_cases hlt:k<V.length
 ·obtain ⟨x,hx⟩:∃ x,V[k]? = some x:=⟨V[k],by simp[hlt]⟩
  have hne:decide (x≠x)=false:=by simp
  (try refine zI zk61 F M ?_;clear F M a;try clear w);(repeat'(first|refine zV (h:=⟨_,by((apply(rt_neqT (f:=valL) (p:=x) (q:=x));(exact rfl);(exact rfl);(exact rfl);(exact inferInstance);(exact inferInstance))),?_⟩)|refine zA1 ?_;repeat intro(nb:Nat)|refine zB ?_ ?_<;>intro hc<;>try exact no hc|refine zH ?_ ?_<;>(intro hg;rw[hg];try exact no hg)));all_goals try refine zO fun a w F M=>?_
  all_goals first|(exfalso;simp_all;done)|skip
  exact sv_again F M (k+1) kpA permsA (by omega) (by omega)
 ·obtain rfl:k=V.length:=by omega
  (try refine zI zk61 F M ?_;clear F M a;try clear w);(repeat'(first|refine zA ?_;repeat intro nb|refine zB ?_ ?_<;>intro hc<;>try exact no hc|refine zH ?_ ?_<;>(intro hg;rw[hg];try exact no hg)));all_goals exact zXz
end
section
variable (W:List Int) (v:Value) (R:List Asn) (hg:GS R 1 v W.length (W.flatMap u64L))
include hg
theorem rof_spec (i:Nat):Spec 291 [v,.int .i64 i] R fun u L'=>u=.int .u64 (wAt W i)∧L'=R:=by
 have hwa:wAt W i=(W[i]?).getD 0:=by unfold wAt;rw[List.getD_eq_getElem?_getD]
 refine zGo Tryz.func291 ?_;intro G w M a F
 have hG:GS (R++G) 1 v W.length (W.flatMap u64L):=Gives.app hg
 by_cases hlt:i<W.length
 ·obtain ⟨x,hx⟩:∃ x,W[i]? = some x:=⟨W[i],by simp[hlt]⟩
  rw[hx] at hwa
  (try refine zI zk291 F M ?_;clear F M a;try clear w);(repeat'(first|refine zA ?_;repeat intro nb|refine zB ?_ ?_<;>intro hc<;>try exact no hc|refine zH ?_ ?_<;>(intro hg;rw[hg];try exact no hg)));all_goals try refine zO fun a w F M=>?_
  (all_goals(refine zE F M ?_;exact⟨_,_,rfl,⟨by rw[hwa];rfl,rfl⟩,M.perms permsA⟩))
 ·rw[List.getElem?_eq_none (by omega)] at hwa
  (try refine zI zk291 F M ?_;clear F M a;try clear w);(repeat'(first|refine zA ?_;repeat intro nb|refine zB ?_ ?_<;>intro hc<;>try exact no hc|refine zH ?_ ?_<;>(intro hg;rw[hg];try exact no hg)));all_goals try refine zO fun a w F M=>?_
  (all_goals(refine zE F M ?_;exact⟨_,_,rfl,⟨by rw[hwa];rfl,rfl⟩,M.perms permsA⟩))
theorem rweight_spec (hW:∀ x∈W,U64 x) (l:List Nat) (vi:Value) (hi:GS R 1 vi l.length (l.flatMap natL)) (hl:l.length≤100000):Spec 211 [v,vi] R fun u L'=>u=.tuple [.int .u64 (addR (l.map (wAt W))).1,.bool (addR (l.map (wAt W))).2].toArray∧L'=R:=by
 have hww:∀ z∈l.map (wAt W),U64 z:=fun z hz=>by
  obtain ⟨i,_,rfl⟩:=List.mem_map.1 hz
  exact wAt_u64 hW i
 have ha:∀ {L:List Asn} {v:Value},GS L 1 v (l.map (wAt W)).length ((l.map (wAt W)).flatMap u64L)→Reads 207 [v] (.tuple [.int .u64 (addR (l.map (wAt W))).1,.bool (addR (l.map (wAt W))).2].toArray) L:=fun hg=>radd_reads _ _ hww hg
 generalize addR (l.map (wAt W))=X at *
 obtain ⟨X1,X2⟩:=X
 refine zGo Tryz.func211 ?_;intro G w M a F
 have hG:GS (R++G) 1 v W.length (W.flatMap u64L):=Gives.app hg
 have hI:GS (R++G) 1 vi l.length (l.flatMap natL):=Gives.app hi
 have M:=M.own_nil 22 1
 (try refine zI zk211 F M ?_;clear F M a;try clear w);(repeat'(first|refine zA ?_;repeat intro nb|refine zB ?_ ?_<;>intro hc<;>try exact no hc|refine zH ?_ ?_<;>(intro hg;rw[hg];try exact no hg)));all_goals try refine zO fun a w F M=>?_
 refine svLoop F M ((0,nilH):Nat × SlH) (fun s=>[(7,.int .i64 s.1),(6,sl s.2)]) (fun s=>[ownT 22 u64L 1 (sl s.2) ((l.take s.1).map (wAt W))]) (fun s=>s.1≤l.length) (fun s=>l.length - s.1) [] (Nat.zero_le _) ?_ (hR:=by simp only[List.take_zero,List.map_nil];(repeat (first|exact Pulls.nil|(apply Pulls.cons;(focus ((repeat (first|exact Pull.here|apply Pull.there));done))))))
 (rintro⟨k,h⟩ q1 a w F M;(try simp only[zc,zn] at F M q1 ⊢))
 by_cases hlt:k<l.length
 ·obtain ⟨x,hx⟩:∃ x,l[k]? = some x:=⟨l[k],by simp[hlt]⟩
  have ht:=take_map (f:=wAt W) hx
  have htl:((l.take k).map (wAt W)).length≤100000:=by rw[List.length_map,List.length_take];omega
  have hwt:=fun (R:List Asn) (hg:GS R 1 v W.length (W.flatMap u64L))=>rof_spec W v R hg x
  (try refine zI zk211 F M ?_;clear F M a;try clear w);(repeat'(first|refine zA ?_;repeat intro nb|refine zC ?_;(first|refine acW (k:=291) (hwt _ ?_) ?_;exact gsA;rintro u L' ⟨rfl,rfl⟩|refine ac_appendH rfl rfl inferInstance rfl rfl pullA inferInstance (ys:=[wAt W x]) gsA rfl rfl (by simp;omega) ?_;intro nv)|refine zB ?_ ?_<;>intro hc<;>try exact no hc|refine zH ?_ ?_<;>(intro hg;rw[hg];try exact no hg)));all_goals try refine zO fun a w F M=>?_
  rw[← ht] at M
  refine sv_again F M (k+1,nv) kpA permsA (by simp only;omega) (by simp only;omega)
 ·obtain rfl:k=l.length:=by omega
  rw[List.take_length] at M
  (try refine zI zk211 F M ?_;clear F M a;try clear w);(repeat'(first|refine zA ?_;repeat intro nb|refine zC ?_;refine acCall (k:=207) ?_;refine Spec.of_reads (ha (gs_own pullA)) rfl ?_|refine zB ?_ ?_<;>intro hc<;>try exact no hc|refine zH ?_ ?_<;>(intro hg;rw[hg];try exact no hg)));all_goals exact zXz
end
section
variable (ln mt size:Nat) (W:List Int) (v:Value) (R:List Asn) (hg:GS R 1 v W.length (W.flatMap u64L)) (hW:∀ x∈W,U64 x) (fo vo:List Nat) (hf:fo.length≤4096) (hv:vo.length≤4096) (ca x ep:Int) (hca:U64 ca) (hx:U64 x) (hep:0≤ep∧ep≤1099511627776)
include hg hW hf hv hca hx hep
theorem rastep_spec:Spec 220 [.int .i64 ep,ptr ln,ptr mt,.int .u64 x,v] (rmtA mt ca::rlnA ln size fo vo::R) fun u L'=>∃ h,u=sl h∧L'=ownT 335 asgL 3 (sl h) (asgs (ep+1) fo vo (takeW W (granted ca x) (fo++vo)).1)::rmtA mt (if (takeW W (granted ca x) (fo++vo)).1=(fo++vo).length then 0 else (takeW W (granted ca x) (fo++vo)).2)::rlnA ln size (fo.drop (takeW W (granted ca x) (fo++vo)).1) (vo.drop ((takeW W (granted ca x) (fo++vo)).1 - fo.length))::R:=by
 have hgr:=fun R=>rmt_grant mt R ca x hca hx
 have hx0:=hx.1
 have hG1:U64 (granted ca x):=by have:=hca.1;have:=hca.2;unfold granted;exact⟨by omega,by omega⟩
 have hI:AsI W (ep+1) fo vo (takeW W (granted ca x) (fo++vo)) fo vo (granted ca x) []:=⟨by simp,rfl,rfl,rfl,Iff.rfl⟩
 generalize takeW W (granted ca x) (fo++vo)=T at *
 generalize granted ca x=g at *
 refine zGo Tryz.func220 ?_;intro G w M a F
 have hG:GS (R++G) 1 v W.length (W.flatMap u64L):=Gives.app hg
 have M:=M.own_nil 335 3
 (try refine zI zk220 F M ?_;clear F M a;try clear w);(repeat'(first|refine zA ?_;repeat intro nb|refine zC ?_;refine kp (k:=295) (hgr _) ?_|refine zB ?_ ?_<;>intro hc<;>try exact no hc|refine zH ?_ ?_<;>(intro hg;rw[hg];try exact no hg)));all_goals try refine zO fun a w F M=>?_
 refine svLoop F M ((fo,vo,g,nilH,[]):List Nat × List Nat × Int × SlH × List Asg) (fun s=>[(11,sl s.2.2.2.1)]) (fun s=>[ownT 335 asgL 3 (sl s.2.2.2.1) s.2.2.2.2,rmtA mt s.2.2.1,rlnA ln size s.1 s.2.1]) (fun s=>s.1.length+s.2.1.length+s.2.2.2.2.length≤8192∧U64 s.2.2.1∧AsI W (ep+1) fo vo T s.1 s.2.1 s.2.2.1 s.2.2.2.2) (fun s=>s.1.length+s.2.1.length) [] ⟨by simp;omega,hG1,hI⟩ ?_ (hR:=by(repeat (first|exact Pulls.nil|(apply Pulls.cons;(focus ((repeat (first|exact Pull.here|apply Pull.there));done))))))
 (rintro⟨f,vv,m,h,out⟩ ⟨q1,q2,q3⟩ a w F M;(try simp only[zc,zn] at F M q1 q2 q3 ⊢))
 obtain ⟨o1,o2,o3,o4,o5⟩:=q3
 have fin:∀ {w:World} {z:Int} {f2 v2:List Nat},f2=fo.drop T.1→v2=vo.drop (T.1 - fo.length)→out=asgs (ep+1) fo vo T.1→z=(if T.1=(fo++vo).length then 0 else T.2)→Mem w (ownT 335 asgL 3 (sl h) out::rmtA mt z::rlnA ln size f2 v2::(R++G))→Mem w (ownT 335 asgL 3 (sl h) (asgs (ep+1) fo vo T.1)::rmtA mt (if T.1=(fo++vo).length then 0 else T.2)::rlnA ln size (fo.drop T.1) (vo.drop (T.1 - fo.length))::(R++G)):=by
  intro w z f2 v2 e1 e2 e3 e4 M
  subst e1;subst e2;rw[← e3,← e4];exact M
 have wsp:=fun (i:Nat) (R:List Asn) hg=>rof_spec W v R hg i
 have tsp:=fun (y:Int) (hy:U64 y) R=>rmt_take mt R m y q2 hy
 cases f with
 | cons i f =>
  have hwu:=wAt_u64 hW i
  have ts:=fun R=>tsp _ hwu R
  have ws:=fun R hg=>wsp i R hg
  have hlf:=fun R=>rlhead_f ln R size i f vv
  rw[zc,takeW] at o1 o2 o3 o4 o5
  by_cases hle:wAt W i≤m
  ·simp only[hle,if_true,decide_true] at ts o1 o2 o3 o4 o5
   generalize wAt W i=z at *
   (try refine zI zk220 F M ?_;clear F M a;try clear w);(repeat'(first|refine zA ?_;repeat intro nb|refine zC ?_;(first|refine acW (k:=291) (ws _ ?_) ?_;exact gsA;rintro u L' ⟨rfl,rfl⟩|refine kp (k:=298) (ts _) ?_|refine kp (k:=299) (rlpop_f ln _ size i f vv) ?_|refine kp (k:=296) (hlf _) ?_|refine ac_appendH (f:=asgL) (xs:=out) (ys:=[⟨(i:Int),0,ep+1⟩]) rfl rfl inferInstance rfl rfl pullA inferInstance gsA rfl rfl (by simp;omega) ?_;intro nv)|refine zB ?_ ?_<;>intro hc<;>try exact no hc|refine zH ?_ ?_<;>(intro hg;rw[hg];try exact no hg)));all_goals try refine zO fun a w F M=>?_
   refine sv_again F M (f,vv,m - z,nv,_) kpA permsA ⟨by simp at q1 ⊢;omega,⟨by simp only;omega,by have:=q2.2;have:=hwu.1;simp only;omega⟩,?_⟩ (by simp)
   exact⟨by rw[asgs_f] at o1;simpa using o1,by simpa using o2,by simpa using o3,o4,by simpa using o5⟩
  ·simp only[hle,if_false,decide_false] at ts o1 o2 o3 o4 o5
   (try refine zI zk220 F M ?_;clear F M a;try clear w);(repeat'(first|refine zA ?_;repeat intro nb|refine zC ?_;(first|refine acW (k:=291) (ws _ ?_) ?_;exact gsA;rintro u L' ⟨rfl,rfl⟩|refine kp (k:=298) (ts _) ?_|refine kp (k:=296) (hlf _) ?_)|refine zB ?_ ?_<;>intro hc<;>try exact no hc|refine zH ?_ ?_<;>(intro hg;rw[hg];try exact no hg)));all_goals try refine zO fun a w F M=>?_
   all_goals refine zE F M ?_
   refine⟨_,_,rfl,⟨h,rfl,rfl⟩,fin ?_ ?_ ?_ ?_ (M.perms permsA)⟩
   ·simpa using o2
   ·simpa using o3
   ·simpa[asgs_z] using o1
   ·rw[if_neg (by intro e;have:=o5.2 e;simp at this)];exact o4
 | nil =>
  cases vv with
  | cons i vv =>
   have hwu:=wAt_u64 hW i
   have ts:=fun R=>tsp _ hwu R
   have ws:=fun R hg=>wsp i R hg
   have hlf:=fun R=>rlhead_v ln R size i vv
   rw[zn,takeW] at o1 o2 o3 o4 o5
   by_cases hle:wAt W i≤m
   ·simp only[hle,if_true,decide_true] at ts o1 o2 o3 o4 o5
    generalize wAt W i=z at *
    (try refine zI zk220 F M ?_;clear F M a;try clear w);(repeat'(first|refine zA ?_;repeat intro nb|refine zC ?_;(first|refine acW (k:=291) (ws _ ?_) ?_;exact gsA;rintro u L' ⟨rfl,rfl⟩|refine kp (k:=298) (ts _) ?_|refine kp (k:=299) (rlpop_v ln _ size i vv) ?_|refine kp (k:=296) (hlf _) ?_|refine ac_appendH (f:=asgL) (xs:=out) (ys:=[⟨(i:Int),1,ep+1⟩]) rfl rfl inferInstance rfl rfl pullA inferInstance gsA rfl rfl (by simp;omega) ?_;intro nv)|refine zB ?_ ?_<;>intro hc<;>try exact no hc|refine zH ?_ ?_<;>(intro hg;rw[hg];try exact no hg)));all_goals try refine zO fun a w F M=>?_
    refine sv_again F M ([],vv,m - z,nv,_) kpA permsA ⟨by simp at q1 ⊢;omega,⟨by simp only;omega,by have:=q2.2;have:=hwu.1;simp only;omega⟩,?_⟩ (by simp)
    exact⟨by rw[asgs_v] at o1;simpa using o1,by simpa using o2,by simpa using o3,o4,by simpa using o5⟩
   ·simp only[hle,if_false,decide_false] at ts o1 o2 o3 o4 o5
    (try refine zI zk220 F M ?_;clear F M a;try clear w);(repeat'(first|refine zA ?_;repeat intro nb|refine zC ?_;(first|refine acW (k:=291) (ws _ ?_) ?_;exact gsA;rintro u L' ⟨rfl,rfl⟩|refine kp (k:=298) (ts _) ?_|refine kp (k:=296) (hlf _) ?_)|refine zB ?_ ?_<;>intro hc<;>try exact no hc|refine zH ?_ ?_<;>(intro hg;rw[hg];try exact no hg)));all_goals try refine zO fun a w F M=>?_
    all_goals refine zE F M ?_
    refine⟨_,_,rfl,⟨h,rfl,rfl⟩,fin ?_ ?_ ?_ ?_ (M.perms permsA)⟩
    ·simpa using o2
    ·simpa using o3
    ·simpa[asgs_z] using o1
    ·rw[if_neg (by intro e;have:=o5.2 e;simp at this)];exact o4
  | nil =>
   have hlf:=fun R=>rlhead_n ln R size
   rw[zn,takeW] at o1 o2 o3 o4 o5
   (try refine zI zk220 F M ?_;clear F M a;try clear w);(repeat'(first|refine zA ?_;repeat intro nb|refine zC ?_;(first|refine kp (k:=297) (rmt_drop mt _ m) ?_|refine kp (k:=296) (hlf _) ?_)|refine zB ?_ ?_<;>intro hc<;>try exact no hc|refine zH ?_ ?_<;>(intro hg;rw[hg];try exact no hg)));all_goals try refine zO fun a w F M=>?_
   all_goals refine zE F M ?_
   refine⟨_,_,rfl,⟨h,rfl,rfl⟩,fin ?_ ?_ ?_ ?_ (M.perms permsA)⟩
   ·simpa using o2
   ·simpa using o3
   ·simpa[asgs_z] using o1
   ·rw[if_pos (o5.1 rfl)]
end
section
variable (W:List Int) (v:Value) (R:List Asn) (hg:GS R 1 v W.length (W.flatMap u64L)) (hW:∀ x∈W,U64 x) (l:List Nat) (hl:SlH) (hgl:GS R 1 (sl hl) l.length (l.flatMap natL)) (hln:l.length≤4096) (hlc:l.length≤hl.c) (lim:Int) (hlim:U64 lim)
include hg hW hgl hln hlc hlim
theorem ractn_spec:Spec 222 [sl hl,.int .u64 lim,v] R fun u L'=>u=.int .i64 (actN W lim l)∧L'=R:=by
 have hww:∀ (r:List Nat),∀ z∈r.map (wAt W),0≤z:=fun r z hz=>by
  obtain ⟨i,_,rfl⟩:=List.mem_map.1 hz
  exact(wAt_u64 hW i).1
 have hwe:=fun (r:List Nat) (hr:r.length≤100000) (vi:Value) (R:List Asn) hg hi=>rweight_spec W v R hg hW r vi hi hr
 generalize hN:actN W lim l=N
 refine zGo Tryz.func222 ?_;intro G w M a F
 have hG:GS (R++G) 1 v W.length (W.flatMap u64L):=Gives.app hg
 have hL:GS (R++G) 1 (sl hl) l.length (l.flatMap natL):=Gives.app hgl
 (try refine zI zk222 F M ?_;clear F M a;try clear w);(repeat'(first|refine zA ?_;repeat intro nb|refine zB ?_ ?_<;>intro hc<;>try exact no hc|refine zH ?_ ?_<;>(intro hg;rw[hg];try exact no hg)));all_goals try refine zO fun a w F M=>?_
 refine svLoop F M (0:Nat) (fun k=>[(7,.int .i64 k)]) (fun _=>[]) (fun k=>k≤l.length∧(k=0∨N=k+actGo W lim ((l.take k).map (wAt W)).sum (l.drop k)∧((l.take k).map (wAt W)).sum≤18446744073709551615)) (fun k=>l.length - k) [] ⟨Nat.zero_le _,.inl rfl⟩ ?_
 (rintro k ⟨q1,q2⟩ a w F M;(try simp only[zc,zn] at F M q1 q2 ⊢))
 by_cases hlt:k<l.length
 ·obtain ⟨x,hx⟩:∃ x,l[k]? = some x:=⟨l[k],by simp[hlt]⟩
  have hwx:=wAt_u64 hW x
  have ht:((l.take (k+1)).map (wAt W)).sum=((l.take k).map (wAt W)).sum+wAt W x:=by rw[take_map (f:=wAt W) hx,sum_app];simp
  have h0:=sum_nonneg _ (hww (l.take k))
  have hw:=fun (R:List Asn) hg hi=>hwe (l.take (k+1)) (by rw[List.length_take];omega) (sl ⟨hl.a,k+1,hl.c⟩) R hg hi
  rw[addR_sum _ (hww _),ht] at hw
  have hI:=gs_toT (f:=natL) inferInstance hL (j:=k+1) (by omega)
  have hkc:k+1≤hl.c:=by omega
  by_cases hk0:k=0
  ·have hS:((l.take k).map (wAt W)).sum=0:=by subst hk0;rfl
   rw[hS,Int.zero_add] at hw ht
   rw[if_neg (by have:=hwx.2;omega)] at hw
   have hnx:N=(k+1:Nat)+actGo W lim ((l.take (k+1)).map (wAt W)).sum (l.drop (k+1)):=by
    rw[← hN,ht]
    subst hk0
    cases l with
    | nil=>simp at hlt
    | cons y r =>
     obtain rfl:y=x:=by simpa using hx
     simp[actN];omega
   have hk1:¬((k:Int)>0):=by omega
   (try refine zI zk222 F M ?_;clear F M a;try clear w);(repeat'(first|refine zV (h:=⟨_,by((exact rt_to (j:=k+1) rfl rfl rfl inferInstance hkc)),?_⟩)|refine zA1 ?_;repeat intro(nb:Nat)|refine zC ?_;refine acW (k:=211) (hw _ ?_ ?_) ?_;exact gsA;exact gsA;rintro u L' ⟨rfl,rfl⟩|refine zB ?_ ?_<;>intro hc<;>try exact no hc|refine zH ?_ ?_<;>(intro hg;rw[hg];try exact no hg)));all_goals try refine zO fun a w F M=>?_
   all_goals first|(exfalso;simp_all;done)|skip
   exact sv_again F M (k+1) kpA permsA ⟨by omega,.inr ⟨hnx,by rw[ht];exact hwx.2⟩⟩ (by omega)
  ·rcases q2 with q2|⟨e,hs⟩
   ·exact absurd q2 hk0
   have hk1:(k:Int)>0:=by omega
   rw[drop_cons hx,actGo] at e
   by_cases c2:18446744073709551615<((l.take k).map (wAt W)).sum+wAt W x
   ·rw[if_pos (.inr c2)] at e
    rw[if_pos c2] at hw
    (try refine zI zk222 F M ?_;clear F M a;try clear w);(repeat'(first|refine zV (h:=⟨_,by((exact rt_to (j:=k+1) rfl rfl rfl inferInstance hkc)),?_⟩)|refine zA1 ?_;repeat intro(nb:Nat)|refine zC ?_;refine acW (k:=211) (hw _ ?_ ?_) ?_;exact gsA;exact gsA;rintro u L' ⟨rfl,rfl⟩|refine zB ?_ ?_<;>intro hc<;>try exact no hc|refine zH ?_ ?_<;>(intro hg;rw[hg];try exact no hg)));all_goals try refine zO fun a w F M=>?_
    (all_goals(refine zE F M ?_;exact⟨_,_,rfl,⟨by rw[e];rfl,rfl⟩,M.perms permsA⟩))
   ·rw[if_neg c2] at hw
    by_cases c1:lim<((l.take k).map (wAt W)).sum+wAt W x
    ·rw[if_pos (.inl c1)] at e
     generalize ((l.take k).map (wAt W)).sum=S at *
     (try refine zI zk222 F M ?_;clear F M a;try clear w);(repeat'(first|refine zV (h:=⟨_,by((exact rt_to (j:=k+1) rfl rfl rfl inferInstance hkc)),?_⟩)|refine zA1 ?_;repeat intro(nb:Nat)|refine zC ?_;refine acW (k:=211) (hw _ ?_ ?_) ?_;exact gsA;exact gsA;rintro u L' ⟨rfl,rfl⟩|refine zB ?_ ?_<;>intro hc<;>try exact no hc|refine zH ?_ ?_<;>(intro hg;rw[hg];try exact no hg)));all_goals try refine zO fun a w F M=>?_
     (all_goals(refine zE F M ?_;exact⟨_,_,rfl,⟨by rw[e];rfl,rfl⟩,M.perms permsA⟩))
    ·rw[if_neg (by omega)] at e
     have hnx:N=(k+1:Nat)+actGo W lim ((l.take (k+1)).map (wAt W)).sum (l.drop (k+1)):=by rw[ht];omega
     rw[ht] at hnx
     generalize ((l.take k).map (wAt W)).sum=S at *
     (try refine zI zk222 F M ?_;clear F M a;try clear w);(repeat'(first|refine zV (h:=⟨_,by((exact rt_to (j:=k+1) rfl rfl rfl inferInstance hkc)),?_⟩)|refine zA1 ?_;repeat intro(nb:Nat)|refine zC ?_;refine acW (k:=211) (hw _ ?_ ?_) ?_;exact gsA;exact gsA;rintro u L' ⟨rfl,rfl⟩|refine zB ?_ ?_<;>intro hc<;>try exact no hc|refine zH ?_ ?_<;>(intro hg;rw[hg];try exact no hg)));all_goals try refine zO fun a w F M=>?_
     all_goals first|(exfalso;simp_all;done)|skip
     exact sv_again F M (k+1) kpA permsA ⟨by omega,.inr ⟨by rw[ht];exact hnx,by rw[ht];omega⟩⟩ (by omega)
 ·obtain rfl:k=l.length:=by omega
  have hN2:N=l.length:=by
   rcases q2 with q2|⟨q2,_⟩
   ·rw[← hN];have:l=[]:=List.eq_nil_of_length_eq_zero q2;rw[this];rfl
   ·rw[List.drop_length] at q2;simpa[actGo] using q2
  (try refine zI zk222 F M ?_;clear F M a;try clear w);(repeat'(first|refine zA ?_;repeat intro nb|refine zB ?_ ?_<;>intro hc<;>try exact no hc|refine zH ?_ ?_<;>(intro hg;rw[hg];try exact no hg)));all_goals try refine zO fun a w F M=>?_
  (all_goals(refine zE F M ?_;exact⟨_,_,rfl,⟨by rw[hN2];rfl,rfl⟩,M.perms permsA⟩))
end
end
end Go.Proofs.YtjbfcacmdahnhaaGreat
