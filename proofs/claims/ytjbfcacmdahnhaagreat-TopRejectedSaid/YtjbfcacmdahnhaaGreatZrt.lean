import Derived.Test.YtjbfcacmdahnhaaGreatZrs
set_option linter.unusedVariables false
set_option linter.unusedSimpArgs false
set_option linter.unusedSectionVars false
set_option maxRecDepth 100000
set_option maxHeartbeats 8000000
namespace Go.Proofs.YtjbfcacmdahnhaaGreat
section
open Go.RowKit Go.Maps
instance scEQF:EQF opL [.int,.int,.int,.int]:=⟨fun x y=>by
 obtain ⟨a,b,c,d⟩:=x;obtain ⟨e,f,g,h⟩:=y
 simp only[opL,cellsEq,scEq,if_true,Bool.and_true,Opn.mk.injEq,Option.some.injEq]
 rw[Bool.eq_iff_iff];simp⟩
theorem byte_of (m:Nat):IntKind.u8.wrap (m:Int)=((UInt8.ofNat (m % 256)).toNat:Int):=by
 have h1:(UInt8.ofNat (m % 256)).toNat=m % 256:=by
  rw[UInt8.toNat_ofNat'];omega
 rw[h1,IntKind.wrap_u8];omega
theorem byte_k {k:Int}:IntKind.u8.wrap k=((UInt8.ofNat (u64of k % 256)).toNat:Int):=by
 rw[← byte_of]
 unfold u64of
 rw[IntKind.wrap_u8,IntKind.wrap_u8];omega
theorem pow_256 (m:Nat):2 ^ (8*m)=256 ^ m:=by rw[Nat.pow_mul]
structure WrZ where
 j:Nat
 h:SlH
 bs:List UInt8
theorem wrL_take {o:Opn} {ds:List Od} {j:Nat} {d:Od} (h:ds[j]? = some d):wrL o (ds.take (j+1))=wrL o (ds.take j)++wrB o d:=by
 rw[wrL,wrL,List.take_add_one,h,List.flatMap_append];simp
theorem wrL_le (o:Opn) (ds:List Od) (h:ds.length≤2):(wrL o ds).length≤17:=by
 rw[wrL_len]
 have:∀ l:List Od,szL l≤8*l.length:=fun l=>by
  induction l with
  | nil=>decide
  | cons d l ih=>have:=od_size d;rw[szL,List.length_cons];omega
 have:=this ds
 omega
theorem write_none (o:Opn) (hk:I64 o.k) (hd:odsOf o.k=none) (R:List Asn):Spec 162 [opV o] R fun u L'=>u=.tuple [.slice none 0 0,.bool false].toArray∧L'=R:=by
 have hop:=fun R=>operands_spec o.k hk R
 rw[hd] at hop
 obtain ⟨k,ix,tg,am⟩:=o
 simp only[Option.isSome_none,Option.getD_none] at hop
 refine zGz zk162 Tryz.func162 ?_;intro G;(repeat'(first|refine zA ?_;repeat intro nb|refine zC ?_;refine acW (k:=237) (hop _) ?_;rintro u L' ⟨ho,rfl,rfl⟩|refine zB ?_ ?_<;>intro hc<;>try exact no hc|refine zH ?_ ?_<;>(intro hg;rw[hg];try exact no hg)));all_goals try refine zO fun a w F M=>?_
 all_goals refine zE F M ?_
 all_goals exact⟨_,_,rfl,⟨rfl,rfl⟩,M.perms permsA⟩
theorem write_some (o:Opn) (hk:I64 o.k) (ha:U64 o.am) (ds:List Od) (hd:odsOf o.k=some ds) (R:List Asn):Spec 162 [opV o] R fun u L'=>∃ h,u=.tuple [sl h,.bool true].toArray∧L'=ownT 5 u8L 1 (sl h) (wrL o ds)::R:=by
 have hop:=fun R=>operands_spec o.k hk R
 rw[hd] at hop
 have hgt:=fun (d:Od) R=>odget_spec d o ha R
 obtain ⟨hl2,hz⟩:=ods_len hd
 have hb0:IntKind.u8.wrap o.k=_:=byte_k (k:=o.k)
 have hwl:∀ j,wrL o (ds.take j)=UInt8.ofNat (u64of o.k % 256)::(ds.take j).flatMap (wrB o):=fun j=>rfl
 have hwt:=fun {j:Nat} {d:Od} (h:ds[j]? = some d)=>wrL_take (o:=o) h
 have hwn:=fun j=>wrL_le o (ds.take j) (by rw[List.length_take];omega)
 have hwd:∀ d,wrB o d=bigL (u64of (d.get o)) d.size:=fun d=>rfl
 obtain ⟨k,ix,tg,am⟩:=o
 simp only[Option.isSome_some,Option.getD_some] at hop hb0 hwl
 generalize hO:(⟨k,ix,tg,am⟩:Opn)=O at hwl hwt hwn hwd ⊢
 have hgt:∀ (d:Od) (R:List Asn),Spec d.gf [opV ⟨k,ix,tg,am⟩] R fun u L'=>u=.int .u64 (u64of (d.get O):Int)∧L'=R:=by subst hO;exact hgt
 have hO2:opV O=opV ⟨k,ix,tg,am⟩:=by rw[hO]
 rw[hO2]
 refine zGz zk162 Tryz.func162 ?_;intro G;(repeat'(first|refine zV (h:=⟨_,by((apply rt_conv;(exact rfl);(exact rfl);(exact inferInstance);(exact inferInstance);(exact hb0))),?_⟩)|refine zA1 ?_;repeat intro(nb:Nat)|refine zC ?_;refine acW (k:=237) (hop _) ?_;rintro u L' ⟨ho,rfl,rfl⟩|refine zB ?_ ?_<;>intro hc<;>try exact no hc|refine zH ?_ ?_<;>(intro hg;rw[hg];try exact no hg)));all_goals try refine zO fun a w F M=>?_
 obtain ⟨b1,hb1⟩:∃ b1,b1=nb:=⟨_,rfl⟩
 refine svLoop F M (⟨0,⟨some ⟨nb,0,none⟩,1,1⟩,[UInt8.ofNat (u64of k % 256)]⟩:WrZ) (fun z=>[(24,.int .i64 z.j),(6,sl z.h)]) (fun z=>[ownT 5 u8L 1 (sl z.h) z.bs]) (fun z=>z.j≤ds.length∧z.bs=wrL O (ds.take z.j)) (fun z=>ds.length - z.j) [8,9] ⟨Nat.zero_le _,by rw[hwl];rfl⟩ ?_ (hR:=by(repeat (first|exact Pulls.nil|(apply Pulls.cons;(focus ((repeat (first|exact Pull.here|apply Pull.there));done))))))
 (rintro⟨j,h,bs⟩ ⟨q1,q2⟩ a w F M;(try simp only[zc,zn] at F M q1 q2 ⊢))
 by_cases hj:j<ds.length
 ·obtain ⟨d,hdj⟩:∃ d,ds[j]? = some d:=⟨ds[j],by simp[hj]⟩
  have hds:=od_size d
  have hw1:=hwt hdj
  have hw2:=hwn (j+1)
  have hw3:=hwd d
  have hg1:=fun R=>hgt d R
  generalize u64of (d.get O)=X at *
  rw[hw1,← q2,hw3] at hw2
  rw[List.length_append,bigL_len] at hw2
  (try refine zI zk162 F M ?_;clear F M a;try clear w);(repeat'(first|refine zV (h:=⟨_,by(fail),?_⟩)|refine zA1 ?_;repeat intro(nb:Nat)|refine zC ?_;refine acW (k:=237) (hop _) ?_;rintro u L' ⟨ho,rfl,rfl⟩|refine zB ?_ ?_<;>intro hc<;>try exact no hc|refine zH ?_ ?_<;>(intro hg;rw[hg];try exact no hg)));all_goals try refine zO fun a w F M=>?_
  refine svLoop F M (⟨d.size,h,[]⟩:WrZ) (fun z=>[(9,.int .i64 ((z.j:Int) - 1)),(6,sl z.h)]) (fun z=>[ownT 5 u8L 1 (sl z.h) (bs++z.bs)]) (fun z=>z.bs++bigL X z.j=bigL X d.size∧z.j≤d.size) (fun z=>z.j) [] ⟨rfl,Nat.le_refl _⟩ ?_ (hR:=by rw[List.append_nil];(repeat (first|exact Pulls.nil|(apply Pulls.cons;(focus ((repeat (first|exact Pull.here|apply Pull.there));done))))))
  (rintro⟨m,h,T⟩ ⟨p1,p2⟩ a w F M;(try simp only[zc,zn] at F M p1 p2 ⊢))
  have hTl:=congrArg List.length p1
  rw[List.length_append,bigL_len,bigL_len] at hTl
  cases m with
  | zero =>
   simp only[bigL,List.append_nil] at p1
   have ee:((0:Nat):Int) - 1 = -1:=rfl
   rw[ee] at F
   subst p1
   (try refine zI zk162 F M ?_;clear F M a;try clear w);(repeat'(first|refine zV (h:=⟨_,by(fail),?_⟩)|refine zA1 ?_;repeat intro(nb:Nat)|refine zB ?_ ?_<;>intro hc<;>try exact no hc|refine zH ?_ ?_<;>(intro hg;rw[hg];try exact no hg)));all_goals try refine zO fun a w F M=>?_
   refine sv_again F M (⟨j+1,h,bs++bigL X d.size⟩:WrZ) kpA permsA ⟨by simp only;omega,?_⟩ (by simp only;omega)
   rw[hw1,q2,hw3]
  | succ m =>
   have ee:((m+1:Nat):Int) - 1=m:=by omega
   rw[ee] at F
   have hby:IntKind.u8.wrap ((X / 2 ^ (8*m):Nat):Int)=((UInt8.ofNat (X / 256 ^ m % 256)).toNat:Int):=by rw[pow_256];exact byte_of _
   have e8:(8:Int)*(m:Int)=((8*m:Nat):Int):=by omega
   (try refine zI zk162 F M ?_;clear F M a;try clear w);(repeat'(first|refine zV (h:=⟨_,by((first|(refine rt_shr (k:=.i64) (m:=X) (s:=8*m) rfl rfl ?_ ?_;(rw[← e8];exact rfl);omega)|(apply rt_conv;(exact rfl);(exact rfl);(exact inferInstance);(exact inferInstance);(exact hby)))),?_⟩)|refine zA1 ?_;repeat intro(nb:Nat)|refine zC ?_;(first|refine kpW (k:=d.gf) (hg1 _) ?_|refine ac_appendH (f:=u8L) (xs:=bs++T) (ys:=[UInt8.ofNat (X / 256 ^ m % 256)]) rfl rfl inferInstance rfl rfl pullA inferInstance gsA rfl rfl (by simp;omega) ?_;intro nv)|refine zB ?_ ?_<;>intro hc<;>try exact no hc|refine zH ?_ ?_<;>(intro hg;rw[hg];try exact no hg)));all_goals try refine zO fun a w F M=>?_
   refine sv_again F M (⟨m,nv,T++[UInt8.ofNat (X / 256 ^ m % 256)]⟩:WrZ) kpA (by rw[← List.append_assoc];exact permsA) ⟨?_,by simp only;omega⟩ (by simp only;omega)
   rw[← p1,bigL];simp
 ·obtain rfl:j=ds.length:=by omega
  rw[List.take_length] at q2
  subst q2
  (try refine zI zk162 F M ?_;clear F M a;try clear w);(repeat'(first|refine zA ?_;repeat intro nb|refine zB ?_ ?_<;>intro hc<;>try exact no hc|refine zH ?_ ?_<;>(intro hg;rw[hg];try exact no hg)));all_goals try refine zO fun a w F M=>?_
  all_goals refine zE F M ?_
  all_goals exact⟨_,_,rfl,⟨h,rfl,rfl⟩,M.perms permsA⟩
theorem opvalid_spec (o:Opn) (hk:I64 o.k) (hr:OpR o) (R:List Asn):Spec 161 [opV o] R fun u L'=>u=.bool (okM o)∧L'=R:=by
 obtain ⟨r1,r2,r3⟩:=hr
 cases hd:odsOf o.k with
 | none =>
  have hw:=fun R=>write_none o hk hd R
  have e:okM o=false:=by rw[okM,hd]
  rw[e]
  obtain ⟨k,ix,tg,am⟩:=o
  refine zGz zk161 Tryz.func161 ?_;intro G;(repeat'(first|refine zA ?_;repeat intro nb|refine zC ?_;refine kpW (k:=162) (hw _) ?_|refine zB ?_ ?_<;>intro hc<;>try exact no hc|refine zH ?_ ?_<;>(intro hg;rw[hg];try exact no hg)));all_goals try refine zO fun a w F M=>?_
  all_goals refine zE F M ?_
  all_goals exact⟨_,_,rfl,⟨rfl,rfl⟩,M.perms permsA⟩
 | some ds =>
  have hw:=fun R=>write_some o hk r3 ds hd R
  have hv:=valid_iff o r1 r2 r3 ds hd
  have hl:=wrL_len o ds
  obtain ⟨hl2,hz⟩:=ods_len hd
  have hdc:=fun (h:SlH) R (hg:BG R h (wrL o ds))=>dec_spec h (wrL o ds) 0 (by omega) (by omega) R hg
  rw[← hv]
  obtain ⟨k,ix,tg,am⟩:=o
  generalize wrL ⟨k,ix,tg,am⟩ ds=W at *
  generalize decM W 0=X at *
  obtain ⟨p,nx⟩:=X
  simp only at hdc ⊢
  refine zGz zk161 Tryz.func161 ?_;intro G;(repeat'(first|refine zV (h:=⟨_,by((refine rt_eqlT (f:=opL) (p:=p) (q:=⟨k,ix,tg,am⟩) rfl rfl rfl inferInstance inferInstance)),?_⟩)|refine zA1 ?_;repeat intro(nb:Nat)|refine zC ?_;refine acW (k:=162) (hw _) ?_;rintro u L' ⟨h,rfl,rfl⟩|refine zB ?_ ?_<;>intro hc<;>try exact no hc|refine zH ?_ ?_<;>(intro hg;rw[hg];try exact no hg)));all_goals try refine zO fun a w F M=>?_
  have gb:=bg_own M pullA
  (try refine zI zk161 F M ?_;clear F M a;try clear w);(repeat'(first|refine zV (h:=⟨_,by((refine rt_eqlT (f:=opL) (p:=p) (q:=⟨k,ix,tg,am⟩) rfl rfl rfl inferInstance inferInstance)),?_⟩)|refine zA1 ?_;repeat intro(nb:Nat)|refine zC ?_;refine acW (k:=236) (hdc h _ ?_) ?_;(focus ((repeat (first|assumption|apply BG.tail));done));rintro u L' ⟨rfl,rfl⟩|refine zB ?_ ?_<;>intro hc<;>try exact no hc|refine zH ?_ ?_<;>(intro hg;rw[hg];try exact no hg)));all_goals try refine zO fun a w F M=>?_
  all_goals refine zE F M ?_
  all_goals exact⟨_,_,rfl,⟨rfl,rfl⟩,M.perms permsA⟩
end
section
open Go.RowKit Go.Maps
theorem okM_enc {o:Opn} (h:okM o=true):∃ ds,odsOf o.k=some ds∧encM o=wrL o ds∧(encM o).length≤17:=by
 obtain ⟨ds,hd⟩:=okM_true h
 have e:encM o=wrL o ds:=by rw[encM,hd.k]
 exact⟨ds,hd.k,e,by rw[e];exact wrL_le o ds (ods_len hd.k).1⟩
theorem oenc_no (o:Opn) (hk:I64 o.k) (hr:OpR o) (h:okM o=false) (R:List Asn):Spec 99 [opV o] R fun u L'=>u=.tuple [.slice none 0 0,.bool false].toArray∧L'=R:=by
 have hv:=fun R=>opvalid_spec o hk hr R
 rw[h] at hv
 obtain ⟨k,ix,tg,am⟩:=o
 refine zGz zk99 Tryz.func99 ?_;intro G;(repeat'(first|refine zA ?_;repeat intro nb|refine zC ?_;refine kpW (k:=161) (hv _) ?_|refine zB ?_ ?_<;>intro hc<;>try exact no hc|refine zH ?_ ?_<;>(intro hg;rw[hg];try exact no hg)));all_goals exact zXz
theorem oenc_yes (o:Opn) (hk:I64 o.k) (hr:OpR o) (h:okM o=true) (R:List Asn):Spec 99 [opV o] R fun u L'=>∃ h,u=.tuple [sl h,.bool true].toArray∧L'=ownT 5 u8L 1 (sl h) (encM o)::R:=by
 have hv:=fun R=>opvalid_spec o hk hr R
 rw[h] at hv
 obtain ⟨ds,hd,e,_⟩:=okM_enc h
 have hw:=fun R=>write_some o hk hr.2.2 ds hd R
 rw[← e] at hw
 obtain ⟨k,ix,tg,am⟩:=o
 refine zGz zk99 Tryz.func99 ?_;intro G;(repeat'(first|refine zA ?_;repeat intro nb|refine zC ?_;(first|refine kpW (k:=161) (hv _) ?_|refine acW (k:=162) (hw _) ?_;rintro u L' ⟨h,rfl,rfl⟩)|refine zB ?_ ?_<;>intro hc<;>try exact no hc|refine zH ?_ ?_<;>(intro hg;rw[hg];try exact no hg)));all_goals try refine zO fun a w F M=>?_
 all_goals refine zE F M ?_
 all_goals exact⟨_,_,rfl,⟨h,rfl,rfl⟩,M.perms permsA⟩
theorem encAll_take {l:List Opn} {j:Nat} {o:Opn} (h:l[j]? = some o):encAll (l.take (j+1))=encAll (l.take j)++encM o:=by
 rw[encAll,encAll,List.take_add_one,h,List.flatMap_append];simp
theorem encAll_le:∀ (l:List Opn),(∀ o∈l,okM o=true)→(encAll l).length≤17*l.length
 | [],_=>by simp[encAll]
 | o::l,h=>by
  obtain ⟨_,_,_,h1⟩:=okM_enc (h o (by simp))
  have h2:=encAll_le l fun o ho=>h o (by simp[ho])
  rw[encAll,List.flatMap_cons,List.length_append,List.length_cons]
  rw[encAll] at h2
  omega
section
variable (v:Value) (l:List Opn) (R:List Asn) (hg:GS R 4 v l.length (l.flatMap opL)) (hl:l.length≤1000) (hwf:∀ o∈l,I64 o.k∧OpR o)
include hg hl hwf
theorem senc_spec:Spec 36 [v] R fun u L'=>∃ h bs,(u=.tuple [sl h,.bool (l.all okM)].toArray∧bs=if l.all okM=true then encAll l else [])∧L'=ownT 5 u8L 1 (sl h) bs::R:=by
 obtain ⟨X,hX⟩:∃ X,l.all okM=X:=⟨_,rfl⟩
 rw[hX]
 refine zGo Tryz.func36 ?_;intro G w M a F
 have gg:GS (R++G) 4 v l.length (l.flatMap opL):=Gives.app hg
 have hlv:=gg.len_le M
 have M:=M.own_nil 5 1
 (try refine zI zk36 F M ?_;clear F M a;try clear w);(repeat'(first|refine zA ?_;repeat intro nb|refine zB ?_ ?_<;>intro hc<;>try exact no hc|refine zH ?_ ?_<;>(intro hg;rw[hg];try exact no hg)));all_goals try refine zO fun a w F M=>?_
 refine svLoop F M ((0,nilH,[]):Nat × SlH × List UInt8) (fun z=>[(11,.int .i64 z.1),(4,sl z.2.1)]) (fun z=>[ownT 5 u8L 1 (sl z.2.1) z.2.2]) (fun z=>z.1≤l.length∧z.2.2=encAll (l.take z.1)∧(l.drop z.1).all okM=X∧∀ o∈l.take z.1,okM o=true) (fun z=>l.length - z.1) [6,7,8] ⟨Nat.zero_le _,rfl,hX,by simp⟩ ?_ (hR:=by(repeat (first|exact Pulls.nil|(apply Pulls.cons;(focus ((repeat (first|exact Pull.here|apply Pull.there));done))))))
 (rintro⟨k,hh,bs⟩ ⟨q1,q2,q3,q4⟩ a w F M;(try simp only[zc,zn] at F M q1 q2 q3 q4 ⊢))
 by_cases hk:k<l.length
 ·obtain ⟨o,ho⟩:∃ o,l[k]? = some o:=⟨l[k],by simp[hk]⟩
  obtain ⟨w1,w2⟩:=hwf o (List.mem_of_getElem? ho)
  have hbl:=encAll_le _ q4
  rw[← q2,List.length_take] at hbl
  rw[drop_cons ho,List.all_cons] at q3
  cases hok:okM o
  ·rw[hok,Bool.false_and] at q3
   subst q3
   have he:=fun R=>oenc_no o w1 w2 hok R
   obtain ⟨ok,oi,ot,oa⟩:=o
   (try refine zI zk36 F M ?_;clear F M a;try clear w);(repeat'(first|refine zA ?_;repeat intro nb|refine zC ?_;refine kpW (k:=99) (he _) ?_|refine zB ?_ ?_<;>intro hc<;>try exact no hc|refine zH ?_ ?_<;>(intro hg;rw[hg];try exact no hg)));all_goals try refine zO fun a w F M=>?_
   all_goals refine zE F M ?_
   all_goals exact⟨_,_,rfl,⟨nilH,[],⟨rfl,rfl⟩,rfl⟩,(M.own_nil 5 1).perms permsA⟩
  ·rw[hok,Bool.true_and] at q3
   have he:=fun R=>oenc_yes o w1 w2 hok R
   obtain ⟨_,_,_,h17⟩:=okM_enc hok
   have hst:=encAll_take ho
   rw[← q2] at hst
   have hq4:∀ x∈l.take (k+1),okM x=true:=by
    intro x hx
    rw[List.take_add_one,ho] at hx
    rcases List.mem_append.1 hx with hx|hx
    ·exact q4 x hx
    ·simp at hx;subst hx;exact hok
   obtain ⟨ok,oi,ot,oa⟩:=o
   generalize encM ⟨ok,oi,ot,oa⟩=W at *
   (try refine zI zk36 F M ?_;clear F M a;try clear w);(repeat'(first|refine zA ?_;repeat intro nb|refine zC ?_;(first|refine acW (k:=99) (he _) ?_;rintro u L' ⟨h2,rfl,rfl⟩|refine ac_appendH (f:=u8L) (xs:=bs) (ys:=W) rfl rfl inferInstance rfl rfl pullA inferInstance gsA rfl rfl (by omega) ?_;intro nv)|refine zB ?_ ?_<;>intro hc<;>try exact no hc|refine zH ?_ ?_<;>(intro hg;rw[hg];try exact no hg)));all_goals try refine zO fun a w F M=>?_
   exact sv_again F M ((k+1,nv,bs++W):Nat × SlH × List UInt8) kpA permsA ⟨by simp only;omega,hst.symm,q3,hq4⟩ (by simp only;omega)
 ·obtain rfl:k=l.length:=by omega
  rw[List.drop_length] at q3
  have q3:true=X:=q3
  subst q3
  rw[List.take_length] at q2
  subst q2
  (try refine zI zk36 F M ?_;clear F M a;try clear w);(repeat'(first|refine zA ?_;repeat intro nb|refine zB ?_ ?_<;>intro hc<;>try exact no hc|refine zH ?_ ?_<;>(intro hg;rw[hg];try exact no hg)));all_goals try refine zO fun a w F M=>?_
  all_goals refine zE F M ?_
  all_goals exact⟨_,_,rfl,⟨hh,encAll l,⟨rfl,rfl⟩,rfl⟩,M.perms permsA⟩
end
end
section
open Go.RowKit
set_option maxHeartbeats 400000 in
theorem rMaxEpoch_any (w:World):Calls Tryz.prog 290 #[] w fun e w'=>e=.returned (.int .i64 1099511627776)∧w=w':=by
 go_enter Tryz.func290,Tryz.ntmps290
 go_wp2
 go_ret
 exact⟨rfl,rfl⟩
set_option maxHeartbeats 1000000 in
theorem rLater_any (a:Int) (v:Value) (zs:List Int) (w:World) (hv:SlR w 1 v zs.length (ints zs)) (hl:zs.length≤1000000) (hr:∀ z∈zs,-9223372036854775808≤z∧z≤9223372036854775807) :
  Calls Tryz.prog 215 #[.int .i64 a,v] w fun e w'=>e=.returned (.tuple #[.int .i64 (laterF a zs),.bool (laterB a zs)])∧Same w w':=by
 have hfin:laterR a zs=(laterF a zs,laterB a zs):=laterR_eq a zs
 have HF:=Lib.hid hfin
 clear hfin
 by_cases ha:a<0
 ·have HI:Hid (laterR a zs=(0,false)):=by unfold laterR;rw[if_pos (.inl ha)];rfl
  go_enter Tryz.func215,Tryz.ntmps215
  go_wp2
  go_ret2
  exact⟨ret_ib (pair1 HI.out HF.out) (pair2 HI.out HF.out),Same.refl _⟩
 ·by_cases hb:1099511627776<a
  ·have HI:Hid (laterR a zs=(0,false)):=by unfold laterR;rw[if_pos (.inr hb)];rfl
   go_enter Tryz.func215,Tryz.ntmps215
   go_wp2
   go_ret2
   exact⟨ret_ib (pair1 HI.out HF.out) (pair2 HI.out HF.out),Same.refl _⟩
  ·have h0:laterR a zs=laterGo a zs:=by unfold laterR;rw[if_neg (by omega)]
   have HR:=Lib.hid hr
   rw[h0] at HF
   clear h0 hr
   have hcell:∀ j (h:j<zs.length),∃ b off cap,v=.slice (some ⟨b,off,none⟩) zs.length cap∧w.cell? ⟨b,off+j,none⟩=some (.int .i64 zs[j]):=fun j h=>by
    obtain ⟨b,off,cap,e,_,hc⟩:=hv.openSome (by omega)
    exact⟨b,off,cap,e,hc j _ (ints_get h)⟩
   obtain ⟨⟨_,_,rfl⟩,hn,hx⟩|⟨b,off,cap,rfl,_,_,hc⟩:=hv.parts
   ·have:zs=[]:=List.eq_nil_of_length_eq_zero hn
    subst this
    have HI:Hid (laterGo a []=(a,true)):=rfl
    go_enter Tryz.func215,Tryz.ntmps215
    go_wp2
    refine wp_loop_rounds 1 ?_
    rw[rounds_succ]
    go_wp2
    go_ret2
    exact⟨ret_ib (pair1 HI.out HF.out) (pair2 HI.out HF.out),Same.refl _⟩
   ·have hcell:∀ j (h:j<zs.length),w.cell? ⟨b,off+j,none⟩=some (.int .i64 zs[j]):=fun j h=>hc j _ (ints_get h)
    clear hc hv
    go_enter Tryz.func215,Tryz.ntmps215
    go_wp2
    go_loopw [0,6] (fun s i wr=>∃ (k:Nat) (x:Int),k≤zs.length∧0≤x∧x≤1099511627776∧i=.int .i64 k∧s=.int .i64 x∧Same w wr∧laterGo a zs=laterGo x (zs.drop k)) (fun _ i _=>(zs.length - (intOf i).toNat))
    case atStart=>exact⟨0,a,by omega,by omega,by omega,rfl,rfl,Same.refl w,rfl⟩
    case round =>
     obtain ⟨k,x,hk,hx0,hx1,rfl,rfl,hS,hinv⟩:=hrel
     by_cases hlt:k<zs.length
     ·have hcl:=(hS.cell _).trans (hcell k hlt)
      have hz:=HR.out zs[k] (List.getElem_mem hlt)
      rw[drop_get hlt,laterGo] at hinv
      clear hcell
      generalize zs[k]=z at *
      by_cases h1:z<0
      ·rw[if_pos (.inl h1)] at hinv
       have HI:=Lib.hid hinv
       clear hinv
       go_wp2_with fail
       go_quiet ((go_at_call 290;exact quiet_eq (rMaxEpoch_any _)))
       go_wp2
       go_ret2
       exact⟨ret_ib (pair1 HI.out HF.out) (pair2 HI.out HF.out),hS.more _⟩
      ·have hd1:decide (z<0)=false:=by simpa using h1
       by_cases h2:1099511627776 - x<z
       ·rw[if_pos (.inr h2)] at hinv
        have HI:=Lib.hid hinv
        clear hinv
        go_wp2_with fail
        go_quiet ((go_at_call 290;exact quiet_eq (rMaxEpoch_any _)))
        go_wp2
        go_ret2
        exact⟨ret_ib (pair1 HI.out HF.out) (pair2 HI.out HF.out),hS.more _⟩
       ·rw[if_neg (by omega)] at hinv
        have HI:=Lib.hid hinv
        clear hinv
        go_wp2_with fail
        go_quiet ((go_at_call 290;exact quiet_eq (rMaxEpoch_any _)))
        go_wp2
        go_roundw
        case rel=>exact⟨k+1,x+z,by omega,by omega,by omega,by go_num,rfl,hS.more _,HI.out⟩
        case measure=>simp[intOf];omega
     ·rw[List.drop_of_length_le (by omega),laterGo] at hinv
      have HI:=Lib.hid hinv
      clear hinv hcell
      go_wp2
      go_ret2
      exact⟨ret_ib (pair1 HI.out HF.out) (pair2 HI.out HF.out),hS⟩
end
section
open Go.RowKit
section
variable (R:List Asn)
theorem rlater_spec (a:Int) (v:Value) (l:List Int) (hg:GS R 1 v l.length (l.flatMap intL)) (hl:l.length≤1000000) (hr:∀ z∈l,I64 z):Spec 215 [.int .i64 a,v] R fun u L'=>u=.tuple [.int .i64 (laterF a l),.bool (laterB a l)].toArray∧L'=R :=
 Spec.of_below_g (us':=[.int .i64 a,v]) (fun w h=>(rLater_any a v l w (by rw[ints_flat];exact h) hl hr).mono fun e w' hh=>⟨hh.1,hh.2.below _⟩) hg rfl ⟨rfl,rfl⟩
theorem ceilD_rem {a d:Int} (ha:0≤a) (hd:1≤d):ceilD a d=if 0<a % d then a / d+1 else a / d:=by
 unfold ceilD
 have h1:=Int.emod_add_mul_ediv a d
 have h2:=Int.emod_nonneg a (show d≠0 by omega)
 have h3:=Int.emod_lt_of_pos a (show 0<d by omega)
 have e:a+d - 1=(a % d+d - 1)+d*(a / d):=by omega
 rw[e,Int.add_mul_ediv_left _ _ (by omega)]
 split
 ·rw[show a % d+d - 1=(a % d - 1)+d*1 by omega,Int.add_mul_ediv_left _ _ (by omega),Int.ediv_eq_zero_of_lt (by omega) (by omega)];omega
 ·rw[Int.ediv_eq_zero_of_lt (by omega) (by omega)];omega
theorem rceil_spec (a d:Int) (ha:U64 a) (hd:1≤d) (hd2:d≤18446744073709551615):Spec 358 [.int .u64 a,.int .u64 d] R fun u L'=>u=.tuple [.int .u64 (ceilD a d),.bool true].toArray∧L'=R:=by
 have h1:=ha.1;have h2:=ha.2
 have hr:=ceilD_range h1 hd
 have hx:=ceilD_rem h1 hd
 have h3:0≤a / d:=Int.ediv_nonneg h1 (by omega)
 have h4:a / d≤a:=Int.ediv_le_self _ h1
 have hw:IntKind.u64.wrap (a / d)=a / d:=u64_wrap_id ⟨h3,by omega⟩
 by_cases h0:0<a % d
 ·rw[if_pos h0] at hx
  refine zGz zk358 Tryz.func358 ?_;intro G;(repeat'(first|refine zA ?_;repeat intro nb|refine zB ?_ ?_<;>intro hc<;>try exact no hc|refine zH ?_ ?_<;>(intro hg;rw[hg];try exact no hg)));all_goals try refine zO fun a w F M=>?_
  all_goals refine zE F M ?_
  all_goals exact⟨_,_,rfl,⟨by rw[hx];rfl,rfl⟩,M.perms permsA⟩
 ·rw[if_neg h0] at hx
  refine zGz zk358 Tryz.func358 ?_;intro G;(repeat'(first|refine zA ?_;repeat intro nb|refine zB ?_ ?_<;>intro hc<;>try exact no hc|refine zH ?_ ?_<;>(intro hg;rw[hg];try exact no hg)));all_goals try refine zO fun a w F M=>?_
  all_goals refine zE F M ?_
  all_goals exact⟨_,_,rfl,⟨by rw[hx];rfl,rfl⟩,M.perms permsA⟩
theorem repochs10_spec (x d:Int) (hx:U64 x) (hd:1≤d) (hd2:d≤18446744073709551615):Spec 356 [.int .u64 x,.int .u64 d] R fun u L'=>u=(if 1099511627776<ceilD x d then .tuple [.int .i64 0,.bool false].toArray else .tuple [.int .i64 (ceilD x d),.bool true].toArray)∧L'=R:=by
 have hr:=ceilD_range hx.1 hd
 by_cases h:1099511627776<ceilD x d
 ·rw[if_pos h]
  refine zGz zk356 Tryz.func356 ?_;intro G;(repeat'(first|refine zA ?_;repeat intro nb|refine zC ?_;refine kpW (k:=358) (rceil_spec _ x d hx hd hd2) ?_|refine zB ?_ ?_<;>intro hc<;>try exact no hc|refine zH ?_ ?_<;>(intro hg;rw[hg];try exact no hg)));all_goals exact zXz
 ·rw[if_neg h]
  have hw:IntKind.i64.wrap (ceilD x d)=ceilD x d:=IntWalk.i64_in _ ⟨by omega,by omega⟩
  refine zGz zk356 Tryz.func356 ?_;intro G;(repeat'(first|refine zA ?_;repeat intro nb|refine zC ?_;refine kpW (k:=358) (rceil_spec _ x d hx hd hd2) ?_|refine zB ?_ ?_<;>intro hc<;>try exact no hc|refine zH ?_ ?_<;>(intro hg;rw[hg];try exact no hg)));all_goals exact zXz
theorem rchurn_spec (x m q:Int) (hx:U64 x) (hq:1≤q):Spec 219 [.int .u64 x,.int .u64 m,.int .u64 q] R fun u L'=>u=.int .u64 (max m (x / q))∧L'=R:=by
 have h3:0≤x / q:=Int.ediv_nonneg hx.1 (by omega)
 have h4:x / q≤x:=Int.ediv_le_self _ hx.1
 have hx2:=hx.2
 have hw:IntKind.u64.wrap (x / q)=x / q:=u64_wrap_id ⟨h3,by omega⟩
 refine zGz zk219 Tryz.func219 ?_;intro G;(repeat'(first|refine zV (h:=⟨_,by((apply rt_max2;(exact rfl);(exact rfl);((show _=max m (x / q);split<;>omega)))),?_⟩)|refine zA1 ?_;repeat intro(nb:Nat)|refine zB ?_ ?_<;>intro hc<;>try exact no hc|refine zH ?_ ?_<;>(intro hg;rw[hg];try exact no hg)));all_goals try refine zO fun a w F M=>?_
 all_goals refine zE F M ?_
 all_goals exact⟨_,_,rfl,⟨rfl,rfl⟩,M.perms permsA⟩
variable (c:Cfg) (hc:CfOk c)
include hc
theorem rbnd_spec (a x:Int) (ha:U64 a) (hx:U64 x):Spec 336 [.int .u64 a,.int .u64 x,cfgV c] R fun u L'=>u=(match bndD c a x with|none=>.tuple [.int .i64 0,.bool false].toArray|some k=>.tuple [.int .i64 k,.bool true].toArray)∧L'=R:=by
 have h1:=hc.fc;have h2:=hc.mc
 have a1:=ha.1;have a2:=ha.2;have x1:=hx.1;have x2:=hx.2
 have hadd:∀ {L:List Asn} {v:Value},GS L 1 v 3 ([a,x,c.forcedCap].flatMap u64L)→Reads 207 [v] (.tuple [.int .u64 (addR [a,x,c.forcedCap]).1,.bool (addR [a,x,c.forcedCap]).2].toArray) L:=fun hg=>radd_reads _ [a,x,c.forcedCap] (by simp only[List.mem_cons,List.not_mem_nil,or_false];rintro z (rfl|rfl|rfl);exact ha;exact hx;exact⟨by omega,by omega⟩) hg
 have hsum:[a,x,c.forcedCap].sum=a+x+c.forcedCap:=by simp;omega
 rw[addR_sum _ (by simp only[List.mem_cons,List.not_mem_nil,or_false];rintro z (rfl|rfl|rfl)<;>omega),hsum] at hadd
 unfold bndD
 by_cases k1:18446744073709551615<a+x+c.forcedCap
 ·rw[if_pos k1] at hadd ⊢
  refine zGz zk336 Tryz.func336 ?_;intro G;(repeat'(first|refine zA ?_;repeat intro nb|refine zC ?_;refine acCall (k:=207) ?_;refine Spec.of_reads (hadd (gs_own pullA)) rfl ?_|refine zB ?_ ?_<;>intro hc<;>try exact no hc|refine zH ?_ ?_<;>(intro hg;rw[hg];try exact no hg)));all_goals exact zXz
 ·rw[if_neg k1] at hadd ⊢
  have he:=fun R=>repochs10_spec R (a+x+c.forcedCap) c.minChurn ⟨by omega,by omega⟩ (by omega) (by omega)
  have hr:=ceilD_range (a:=a+x+c.forcedCap) (d:=c.minChurn) (by omega) (by omega)
  generalize ceilD (a+x+c.forcedCap) c.minChurn=n at *
  by_cases k2:1099511627776<n
  ·rw[if_pos k2]
   simp only[k2,if_true] at he
   refine zGz zk336 Tryz.func336 ?_;intro G;(repeat'(first|refine zA ?_;repeat intro nb|refine zC ?_;(first|refine acCall (k:=207) ?_;refine Spec.of_reads (hadd (gs_own pullA)) rfl ?_|refine kpW (k:=356) (he _) ?_)|refine zB ?_ ?_<;>intro hc<;>try exact no hc|refine zH ?_ ?_<;>(intro hg;rw[hg];try exact no hg)));all_goals exact zXz
  ·rw[if_neg k2]
   simp only[k2,if_false] at he
   refine zGz zk336 Tryz.func336 ?_;intro G;(repeat'(first|refine zV (h:=⟨_,by((apply rt_max2;(exact rfl);(exact rfl);((show _=max n 1;split<;>omega)))),?_⟩)|refine zA1 ?_;repeat intro(nb:Nat)|refine zC ?_;(first|refine acCall (k:=207) ?_;refine Spec.of_reads (hadd (gs_own pullA)) rfl ?_|refine kpW (k:=356) (he _) ?_)|refine zB ?_ ?_<;>intro hc<;>try exact no hc|refine zH ?_ ?_<;>(intro hg;rw[hg];try exact no hg)));all_goals exact zXz
theorem rblocks_spec:Spec 337 [cfgV c] R fun u L'=>u=.int .i64 ((c.capacity - 1) / (min (c.visits - c.partials) (c.payments - c.partials))+1)∧L'=R:=by
 have h1:=hc.vi;have h2:=hc.py;have h3:=hc.pa;have h4:=hc.ca
 obtain ⟨m,hm⟩:∃ m,min (c.visits - c.partials) (c.payments - c.partials)=m:=⟨_,rfl⟩
 obtain ⟨m2,hm2⟩:∃ m2,min c.visits c.payments=m2:=⟨_,rfl⟩
 have hmin:(if c.payments<c.visits then c.payments else c.visits)=m2:=by split<;>omega
 have hmm:m2 - c.partials=m:=by omega
 have hm1:1≤m:=by omega
 have hd0:0≤(c.capacity - 1) / m:=Int.ediv_nonneg (by omega) (by omega)
 have hd1:(c.capacity - 1) / m≤c.capacity - 1:=Int.ediv_le_self _ (by omega)
 have he:(c.capacity+(m2 - c.partials) - 1) / (m2 - c.partials)=(c.capacity - 1) / m+1:=by
  rw[hmm,show c.capacity+m - 1=(c.capacity - 1)+1*m by omega,Int.add_mul_ediv_right _ _ (by omega)]
 have hw:IntKind.i64.wrap ((c.capacity+(m2 - c.partials) - 1) / (m2 - c.partials))=(c.capacity+(m2 - c.partials) - 1) / (m2 - c.partials):=IntWalk.i64_in _ ⟨by omega,by omega⟩
 rw[hm]
 refine zGz zk337 Tryz.func337 ?_;intro G;(repeat'(first|refine zV (h:=⟨_,by((apply rt_min2;(exact rfl);(exact rfl);(exact hmin))),?_⟩)|refine zA1 ?_;repeat intro(nb:Nat)|refine zB ?_ ?_<;>intro hc<;>try exact no hc|refine zH ?_ ?_<;>(intro hg;rw[hg];try exact no hg)));all_goals try refine zO fun a w F M=>?_
 all_goals refine zE F M ?_
 all_goals exact⟨_,_,rfl,⟨by rw[← he];rfl,rfl⟩,M.perms permsA⟩
theorem rsweepD_spec:Spec 293 [cfgV c] R fun u L'=>u=.int .i64 (swpB c)∧L'=R:=by
 have h1:=hc.vi;have h2:=hc.py;have h3:=hc.pa;have h4:=hc.ca;have h5:=hc.el
 have hb:=fun R=>rblocks_spec R c hc
 unfold swpB
 obtain ⟨m,hm⟩:∃ m,min (c.visits - c.partials) (c.payments - c.partials)=m:=⟨_,rfl⟩
 rw[hm] at hb ⊢
 have hd0:0≤(c.capacity - 1) / m:=Int.ediv_nonneg (by omega) (by omega)
 have hd1:(c.capacity - 1) / m≤c.capacity - 1:=Int.ediv_le_self _ (by omega)
 generalize (c.capacity - 1) / m=n at *
 have hd2:0≤n / c.epochLen:=Int.ediv_nonneg (by omega) (by omega)
 have hd3:n / c.epochLen≤n:=Int.ediv_le_self _ (by omega)
 have hw:IntKind.i64.wrap ((n+1 - 1) / c.epochLen)=(n+1 - 1) / c.epochLen:=IntWalk.i64_in _ ⟨by rw[Int.add_sub_cancel];omega,by rw[Int.add_sub_cancel];omega⟩
 refine zGz zk293 Tryz.func293 ?_;intro G;(repeat'(first|refine zA ?_;repeat intro nb|refine zC ?_;refine kpW (k:=337) (hb _) ?_|refine zB ?_ ?_<;>intro hc<;>try exact no hc|refine zH ?_ ?_<;>(intro hg;rw[hg];try exact no hg)));all_goals try refine zO fun a w F M=>?_
 (all_goals(refine zE F M ?_;exact⟨_,_,rfl,⟨by rw[Int.add_sub_cancel];rfl,rfl⟩,M.perms permsA⟩))
def bndG (c:Cfg) (ep a x m:Int):Value:=match bndD c a x with
 | none=>.tuple [.int .i64 0,.bool false].toArray
 | some k=>if 1099511627776<ep+k+1+m then .tuple [.int .i64 0,.bool false].toArray else .tuple [.int .i64 (ep+k+1+m),.bool true].toArray
theorem rbound_spec (ep a x m:Int) (hm:0≤m∧m≤1000000000000) (hep:0≤ep∧ep≤1099511627776) (ha:U64 a) (hx:U64 x) :
  Spec 292 [.int .i64 ep,.int .u64 a,.int .u64 x,cfgV c,.int .i64 m] R fun u L'=>u=bndG c ep a x m∧L'=R:=by
 have hb:=fun R=>rbnd_spec R c hc a x ha hx
 have hr:∀ k,bndD c a x=some k→0≤k∧k≤1099511627776:=fun k hk=>by
  unfold bndD at hk
  split at hk
  ·cases hk
  ·split at hk
   ·cases hk
   ·have:=Option.some.inj hk;omega
 unfold bndG
 cases hd:bndD c a x with
 | none =>
  rw[hd] at hb
  simp only at hb
  refine zGz zk292 Tryz.func292 ?_;intro G;(repeat'(first|refine zA ?_;repeat intro nb|refine zC ?_;refine kpW (k:=336) (hb _) ?_|refine zB ?_ ?_<;>intro hc<;>try exact no hc|refine zH ?_ ?_<;>(intro hg;rw[hg];try exact no hg)));all_goals exact zXz
 | some k =>
  obtain ⟨k1,k2⟩:=hr k hd
  rw[hd] at hb
  simp only at hb
  have hl:=fun (R:List Asn) (v:Value) hg=>rlater_spec R ep v [k,1,m] hg (by simp) (by simp only[List.mem_cons,List.not_mem_nil,or_false];rintro z (rfl|rfl|rfl)<;>exact⟨by omega,by omega⟩)
  have hs:laterGo 0 [ep,k,1,m]=if 1099511627776<ep+k+1+m then (0,false) else (ep+k+1+m,true):=by
   rw[laterGo_sum _ _ (by omega) (by simp only[List.mem_cons,List.not_mem_nil,or_false];rintro z (rfl|rfl|rfl|rfl)<;>omega)]
   rw[show 0 + [ep,k,1,m].sum=ep+k+1+m by simp;omega]
  simp only[laterF,laterB,hs] at hl
  by_cases hk:1099511627776<ep+k+1+m
  all_goals simp only[hk,if_true,if_false] at hl ⊢
  all_goals(refine zGo Tryz.func292 ?_;intro G w M a F)
  all_goals((try refine zI zk292 F M ?_;clear F M a;try clear w);(repeat'(first|refine zA ?_;repeat intro nb|refine zC ?_;(first|refine kpW (k:=336) (hb _) ?_|refine acW (k:=215) (hl _ _ ?_) ?_;exact gs_own pullA;rintro u L' ⟨rfl,rfl⟩)|refine zB ?_ ?_<;>intro hc<;>try exact no hc|refine zH ?_ ?_<;>(intro hg;rw[hg];try exact no hg)));all_goals try refine zO fun a w F M=>?_)
  all_goals refine zE F M ?_
  all_goals exact⟨_,_,rfl,⟨rfl,rfl⟩,M.perms permsA⟩
def payT:Option Int→Value
 | none=>.tuple [.int .i64 0,.bool false].toArray
 | some t=>.tuple [.int .i64 t,.bool true].toArray
theorem payT_form (o:Option Int):∃ t f,payT o=.tuple [.int .i64 t,.bool f].toArray:=by
 cases o<;>exact⟨_,_,rfl⟩
theorem bndG_payD (ep a x:Int):bndG c ep a x (c.unbonding+swpB c)=payT (payD c ep a x):=by
 refine Eq.trans ?_ (payG_payD c hc ep a x)
 unfold bndG payG
 cases bndD c a x with
 | none=>rfl
 | some k =>
  simp only
  rw[show ∀ k:Int,ep+k+1+(c.unbonding+swpB c)=ep+k+1+c.unbonding+swpB c from fun k=>by omega]
theorem rdpay_spec (ep a x:Int) (hep:0≤ep∧ep≤1099511627776) (ha:U64 a) (hx:U64 x):Spec 214 [.int .i64 ep,.int .u64 a,.int .u64 x,cfgV c] R fun u L'=>u=payT (payD c ep a x)∧L'=R:=by
 rw[← bndG_payD c hc ep a x]
 have h4:=hc.un
 have h5:=swpB_range c hc
 have hsw:=fun R=>rsweepD_spec R c hc
 have hbo:=fun R=>rbound_spec R c hc ep a x (c.unbonding+swpB c) (by omega) hep ha hx
 have hcase:∃ t f,bndG c ep a x (c.unbonding+swpB c)=.tuple [.int .i64 t,.bool f].toArray:=by
  unfold bndG
  split
  ·exact⟨_,_,rfl⟩
  ·split<;>exact⟨_,_,rfl⟩
 obtain ⟨t,f,ht⟩:=hcase
 rw[ht] at hbo ⊢
 generalize swpB c=m2 at *
 refine zGz zk214 Tryz.func214 ?_;intro G;(repeat'(first|refine zA ?_;repeat intro nb|refine zC ?_;(first|refine kpW (k:=293) (hsw _) ?_|refine kpW (k:=292) (hbo _) ?_)|refine zB ?_ ?_<;>intro hc<;>try exact no hc|refine zH ?_ ?_<;>(intro hg;rw[hg];try exact no hg)));all_goals exact zXz
end
end
section
open Go.RowKit
abbrev roT {α:Type} (f:α→List Value) (k:Nat) (v:Value) (xs:List α):Asn:=roA k v xs.length (xs.flatMap f)
theorem ro_h {w:World} {L:List Asn} {size m:Nat} {h:SlH} {xs:List Value} (M:Mem w (roA size (sl h) m xs::L)):h.n=m∧m≤h.c∧m≤maxLen:=by
 obtain ⟨s,⟨hs,p,c,hv,hc⟩,_⟩:=M.head
 have h1:=hs.len_le
 obtain ⟨a,n,c'⟩:=h
 simp only[sl,Value.slice.injEq] at hv
 obtain ⟨rfl,rfl,rfl⟩:=hv
 exact⟨rfl,hc,h1⟩
theorem Mem.roP {e:TypeId} {size:Nat} {v:Value} {m:Nat} {xs:List Value} {w:World} {L L':List Asn} (M:Mem w L) (h:Pull L (own e size v m xs) L'):Mem w (roA size v m xs::L'):=(M.pull h).ro
theorem Mem.roFrom {α:Type} {f:α→List Value} {k:Nat} (he:EL f k) {w:World} {L:List Asn} {h:SlH} {xs:List α} (M:Mem w (roT f k (sl h) xs::L)) {j:Nat} (hj:j≤xs.length):Mem w (roT f k (sl (fromH h j k)) (xs.drop j)::L) :=
 M.imp fun s w' hs=>by
  obtain ⟨hs,p,c,hv,hc⟩:=hs
  obtain ⟨a,n,c'⟩:=h
  simp only[sl,Value.slice.injEq] at hv
  obtain ⟨rfl,rfl,rfl⟩:=hv
  have:=hs.from hj hc
  rw[flat_drop he.len] at this
  refine⟨by rw[List.length_drop];exact this,_,c' - j,by rw[List.length_drop],?_⟩
  simp only[List.length_drop];omega
section
variable {Q:Exit→Act→World→Prop} {n:Nat} {l:List (Nat × Value)} {L:List Asn}
theorem zDL {K:ZK} {id:Nat} {os pre:List Oper} {o:Oper} (E Fl:List Nat) (S:List (Nat × List Nat)) (σ:List Nat) (h:YK K (PW Tryz.prog pre.toArray n (QL os.toArray o Q) E Fl S σ [] l L)) (hl:lastL os=some (pre,o):=by exact rfl) (hok:drawOK pre.toArray E Fl S σ n=true:=by kernel_rfl) (hla:lastOK pre.toArray o=true:=by kernel_rfl) (hFl:FlOK Tryz.prog pre.toArray Fl:=by(first|(focus ((repeat (first|exact flok_nil|(apply flok_cons;(exact rfl);(exact rfl);(exact inferInstance);(exact rfl);(exact rfl))));done))|fail)):YK K (ZW n l L ((Code.region id os.toArray true).wp Tryz.prog Q)):=ZW.mk fun a w F M=>svDrawL E Fl S σ F M h hl hok hla hFl
theorem zQo {K:ZK} {ops:Array Oper} {o:Oper} (h:YK K (ZW n l L (wpList Tryz.prog ops Q [o]))):YK K (ZW n l L (QL ops o Q .normal)):=ZW.mk fun a w F M=>ql_open (ZW.h h a w F M)
end
section
variable {o:Oper} {n:Nat} {l:List (Nat × Value)} {L:List Asn} {C:Value→List Asn→Prop}
theorem ac_appendE {α:Type} {f:α→List Value} {x y:Operand} {t:TypeId} {ats:Array TypeId} (ho:o.op=.call {callee:=.builtin .append,args:=#[x,y],argTypes:=ats}) (hat:ats = #[t,t]) {e:TypeId} {z:Value} {k bytes:Nat} (ht:ST t e z k bytes) {v:Value} (hx:evl l x=some v) {u:Value} (hy:evl l y=some u)
  {ys:List α} {L':List Asn} (hp:Pull L (own e k v 0 []) L') (he:EL f k) {m:Nat} {cs:List Value} (hg:GS L k u m cs) (hm:m=ys.length) (hcs:cs=ys.flatMap f) (hb:ys.length*(bytes+1)≤140737488355328)
  (h:∀ v',C (sl v') (ownT e f k (sl v') ys::L')):AC o l L n C :=
 ac_appendH (f:=f) (xs:=[]) (ys:=ys) ho hat ht hx hy hp he hg hm hcs (by simpa using hb) fun v'=>h v'
end
section
variable (b:Nat) (R:List Asn)
abbrev rldC (b:Nat) (cap dep pd bu:Int):Asn:=pt b [.int .u64 cap,.int .u64 dep,.int .u64 pd,.int .u64 bu] 143
section
variable (cap dep pd bu:Int) (h:0≤pd∧0≤bu∧pd+bu≤dep∧dep≤18446744073709551615∧0≤cap∧cap≤1152921504606846976)
include h
theorem rsupply_spec:Spec 208 [ptr b] (rldC b cap dep pd bu::R) fun u L'=>u=.int .u64 (dep - pd - bu)∧L'=rldC b cap dep pd bu::R:=by
 obtain ⟨h1,h2,h3,h4,h5,h6⟩:=h
 refine zGz zk208 Tryz.func208 ?_;intro G;(repeat'(first|refine zA ?_;repeat intro nb|refine zB ?_ ?_<;>intro hc<;>try exact no hc|refine zH ?_ ?_<;>(intro hg;rw[hg];try exact no hg)));all_goals exact zXz
theorem rlburn_spec (x:Int) (hx:0≤x∧x≤dep - pd - bu):Spec 149 [ptr b,.int .u64 x] (rldC b cap dep pd bu::R) fun u L'=>u=.int .i64 0∧L'=rldC b cap dep pd (bu+x)::R:=by
 have hs:=fun R=>rsupply_spec b R cap dep pd bu h
 obtain ⟨h1,h2,h3,h4,h5,h6⟩:=h
 obtain ⟨x1,x2⟩:=hx
 refine zGz zk149 Tryz.func149 ?_;intro G;(repeat'(first|refine zA ?_;repeat intro nb|refine zC ?_;refine kp (k:=208) (hs _) ?_|refine zB ?_ ?_<;>intro hc<;>try exact no hc|refine zH ?_ ?_<;>(intro hg;rw[hg];try exact no hg)));all_goals exact zXz
theorem rlpay_spec (x:Int) (hx:0≤x∧x≤dep - pd - bu):Spec 157 [ptr b,.int .u64 x] (rldC b cap dep pd bu::R) fun u L'=>u=.int .i64 0∧L'=rldC b cap dep (pd+x) bu::R:=by
 have hs:=fun R=>rsupply_spec b R cap dep pd bu h
 obtain ⟨h1,h2,h3,h4,h5,h6⟩:=h
 obtain ⟨x1,x2⟩:=hx
 refine zGz zk157 Tryz.func157 ?_;intro G;(repeat'(first|refine zA ?_;repeat intro nb|refine zC ?_;refine kp (k:=208) (hs _) ?_|refine zB ?_ ?_<;>intro hc<;>try exact no hc|refine zH ?_ ?_<;>(intro hg;rw[hg];try exact no hg)));all_goals exact zXz
theorem rldep_spec (x:Int) (hx:U64 x):Spec 141 [ptr b,.int .u64 x] (rldC b cap dep pd bu::R) fun u L'=>(if cap<x+(dep - pd - bu) then u=.int .i64 4∧L'=rldC b cap dep pd bu::R else if 18446744073709551615<dep+x then u=.int .i64 10∧L'=rldC b cap dep pd bu::R else u=.int .i64 0∧L'=rldC b cap (dep+x) pd bu::R):=by
 have hs:=fun R=>rsupply_spec b R cap dep pd bu h
 obtain ⟨h1,h2,h3,h4,h5,h6⟩:=h
 have x1:=hx.1;have x2:=hx.2
 have ha1:∀ {L:List Asn} {v:Value},GS L 1 v 2 ([dep - pd - bu,x].flatMap u64L)→Reads 207 [v] (.tuple [.int .u64 (addR [dep - pd - bu,x]).1,.bool (addR [dep - pd - bu,x]).2].toArray) L:=fun hg=>radd_reads _ [dep - pd - bu,x] (by simp only[List.mem_cons,List.not_mem_nil,or_false];rintro z (rfl|rfl);exact⟨by omega,by omega⟩;exact hx) hg
 have ha2:∀ {L:List Asn} {v:Value},GS L 1 v 2 ([dep,x].flatMap u64L)→Reads 207 [v] (.tuple [.int .u64 (addR [dep,x]).1,.bool (addR [dep,x]).2].toArray) L:=fun hg=>radd_reads _ [dep,x] (by simp only[List.mem_cons,List.not_mem_nil,or_false];rintro z (rfl|rfl);exact⟨by omega,by omega⟩;exact hx) hg
 rw[addR_sum _ (by simp only[List.mem_cons,List.not_mem_nil,or_false];rintro z (rfl|rfl)<;>omega),show [dep - pd - bu,x].sum=dep - pd - bu+x by simp] at ha1
 rw[addR_sum _ (by simp only[List.mem_cons,List.not_mem_nil,or_false];rintro z (rfl|rfl)<;>omega),show [dep,x].sum=dep+x by simp] at ha2
 by_cases k1:cap<x+(dep - pd - bu)
 ·simp only[k1,if_true]
  by_cases k2:18446744073709551615<dep - pd - bu+x
  all_goals simp only[k2,if_true,if_false] at ha1
  all_goals(refine zGo Tryz.func141 ?_;intro G w M a F)
  all_goals((try refine zI zk141 F M ?_;clear F M a;try clear w);(repeat'(first|refine zA ?_;repeat intro nb|refine zC ?_;(first|refine kp (k:=208) (hs _) ?_|refine acCall (k:=207) ?_;refine Spec.of_reads (ha1 (gs_own pullA)) rfl ?_)|refine zB ?_ ?_<;>intro hc<;>try exact no hc|refine zH ?_ ?_<;>(intro hg;rw[hg];try exact no hg)));all_goals try refine zO fun a w F M=>?_)
  all_goals refine zE F M ?_
  all_goals exact⟨_,_,rfl,⟨rfl,rfl⟩,M.perms permsA⟩
 ·simp only[k1,if_false]
  rw[if_neg (by omega)] at ha1
  by_cases k2:18446744073709551615<dep+x
  all_goals simp only[k2,if_true,if_false] at ha2 ⊢
  all_goals(refine zGo Tryz.func141 ?_;intro G w M a F)
  all_goals((try refine zI zk141 F M ?_;clear F M a;try clear w);(repeat'(first|refine zA ?_;repeat intro nb|refine zC ?_;(first|refine kp (k:=208) (hs _) ?_|refine acCall (k:=207) ?_;(first|refine Spec.of_reads (ha1 (gs_own pullA)) rfl ?_|refine Spec.of_reads (ha2 (gs_own pullA)) rfl ?_))|refine zB ?_ ?_<;>intro hc<;>try exact no hc|refine zH ?_ ?_<;>(intro hg;rw[hg];try exact no hg)));all_goals try refine zO fun a w F M=>?_)
  all_goals refine zE F M ?_
  all_goals exact⟨_,_,rfl,⟨rfl,rfl⟩,M.perms permsA⟩
end
def rmtA (b:Nat) (ca:Int):Asn:=exA fun z:Int × Int × Int × Int=>[pt b [.int .u64 ca,.int .u64 z.1,.int .u64 z.2.1,.int .u64 z.2.2.1,.int .u64 z.2.2.2] 147]
theorem rmt_open {w:World} {L:List Asn} {ca:Int} (M:Mem w (rmtA b ca::L)):∃ z1 z2 z3 z4,Mem w (pt b [.int .u64 ca,.int .u64 z1,.int .u64 z2,.int .u64 z3,.int .u64 z4] 147::L):=by
 obtain ⟨⟨z1,z2,z3,z4⟩,M⟩:=M.exo
 exact⟨z1,z2,z3,z4,M⟩
theorem rmt_close {w:World} {L:List Asn} {ca z1 z2 z3 z4:Int} (M:Mem w (pt b [.int .u64 ca,.int .u64 z1,.int .u64 z2,.int .u64 z3,.int .u64 z4] 147::L)):Mem w (rmtA b ca::L):=Mem.exc (f:=fun z:Int × Int × Int × Int=>[pt b [.int .u64 ca,.int .u64 z.1,.int .u64 z.2.1,.int .u64 z.2.2.1,.int .u64 z.2.2.2] 147]) (z1,z2,z3,z4) M
theorem rmt_grant (ca x:Int) (hca:U64 ca) (hx:U64 x):Spec 295 [ptr b,.int .u64 x] (rmtA b ca::R) fun u L'=>u=.tuple #[]∧L'=rmtA b (granted ca x)::R:=by
 have h1:=hca.1;have h2:=hca.2;have h3:=hx.1
 unfold granted
 obtain ⟨m,hm2⟩:∃ m,min x (18446744073709551615 - ca)=m:=⟨_,rfl⟩
 have hmin:(if 18446744073709551615 - ca<x then 18446744073709551615 - ca else x)=m:=by split<;>omega
 have hm1:0≤m:=by omega
 have hm3:ca+m≤18446744073709551615:=by omega
 rw[hm2]
 intro G w M
 obtain ⟨z1,z2,z3,z4,M2⟩:=rmt_open b M
 clear M;have M:=M2;clear M2
 (refine zGe Tryz.func295 ?_;intro a F;(try simp only[zc,zn] at M))
 ((try(refine zI (⟨List.range 64,(zk295).d,[]⟩) F M ?_;clear F M a;(try clear w)));(repeat'(first|(refine zV (h:=⟨_,by((apply rt_min2;(exact rfl);(exact rfl);(exact hmin))),?_⟩))|(refine zDL (id:=0) [1] [] [(1,[0,2,3,4,5])] [0,2,3,4,5,1,6,7] ?_)|with_reducible refine zQo ?_|(refine zA1 ?_;(repeat intro(nb:Nat)))|((refine zC ?_);(((refine acCall (k:=289) ?_);(refine Spec.of_reads rmax_reads rfl ?_))))|(refine zB ?_ ?_<;>intro hc<;>(try exact no hc))|(refine zH ?_ ?_<;>(intro hg;rw[hg];(try exact no hg)))));(all_goals(try refine zO fun a w F M=>?_)))
 all_goals refine zE F M ?_
 all_goals exact⟨_,_,rfl,⟨rfl,rfl⟩,rmt_close b (M.perms permsA)⟩
theorem rmt_take (ca x:Int) (hca:U64 ca) (hx:U64 x):Spec 298 [ptr b,.int .u64 x] (rmtA b ca::R) fun u L'=>u=.bool (decide (x≤ca))∧L'=rmtA b (if x≤ca then ca - x else ca)::R:=by
 have h1:=hca.1;have h2:=hca.2;have h3:=hx.1
 by_cases h:x≤ca
 all_goals simp only[h,decide_true,decide_false,if_true,if_false]
 all_goals intro G w M
 all_goals obtain ⟨z1,z2,z3,z4,M2⟩:=rmt_open b M
 all_goals(clear M;have M:=M2;clear M2)
 all_goals(refine zGe Tryz.func298 ?_;intro a F;(try simp only[zc,zn] at M))
 all_goals((try refine zI zk298 F M ?_;clear F M a;try clear w);(repeat'(first|refine zA ?_;repeat intro nb|refine zB ?_ ?_<;>intro hc<;>try exact no hc|refine zH ?_ ?_<;>(intro hg;rw[hg];try exact no hg)));all_goals try refine zO fun a w F M=>?_)
 all_goals refine zE F M ?_
 all_goals exact⟨_,_,rfl,⟨rfl,rfl⟩,rmt_close b (M.perms permsA)⟩
theorem rmt_drop (ca:Int):Spec 297 [ptr b] (rmtA b ca::R) fun u L'=>u=.int .u64 ca∧L'=rmtA b 0::R:=by
 intro G w M
 obtain ⟨z1,z2,z3,z4,M2⟩:=rmt_open b M
 clear M;have M:=M2;clear M2
 (refine zGe Tryz.func297 ?_;intro a F;(try simp only[zc,zn] at M))
 (try refine zI zk297 F M ?_;clear F M a;try clear w);(repeat'(first|refine zA ?_;repeat intro nb|refine zB ?_ ?_<;>intro hc<;>try exact no hc|refine zH ?_ ?_<;>(intro hg;rw[hg];try exact no hg)));all_goals try refine zO fun a w F M=>?_
 all_goals refine zE F M ?_
 all_goals exact⟨_,_,rfl,⟨rfl,rfl⟩,rmt_close b (M.perms permsA)⟩
abbrev rlnL (b:Nat) (h1 h2:SlH) (size:Nat) (fo vo:List Nat) (R:List Asn):List Asn:=pt b [sl h1,sl h2,.int .i64 (size:Int)] 145::roT natL 1 (sl h1) fo::roT natL 1 (sl h2) vo::R
def rlnA (b size:Nat) (fo vo:List Nat):Asn:=exA fun z:SlH × SlH=>rlnL b z.1 z.2 size fo vo []
section
variable (size:Nat) (fo vo:List Nat)
theorem rln_open {w:World} {L:List Asn} {size:Nat} {fo vo:List Nat} (M:Mem w (rlnA b size fo vo::L)):∃ h1 h2,Mem w (rlnL b h1 h2 size fo vo L)∧h1.n=fo.length∧h2.n=vo.length:=by
 obtain ⟨⟨h1,h2⟩,M⟩:=M.exo
 refine⟨h1,h2,M,?_,?_⟩
 ·exact(ro_h (M.perms (permsA:Perms _ (roT natL 1 (sl h1) fo::L)))).1
 ·exact(ro_h (M.perms (permsA:Perms _ (roT natL 1 (sl h2) vo::L)))).1
theorem rln_close {w:World} {L:List Asn} {size:Nat} {fo vo:List Nat} {h1 h2:SlH} (M:Mem w (rlnL b h1 h2 size fo vo L)):Mem w (rlnA b size fo vo::L):=Mem.exc (f:=fun z:SlH × SlH=>rlnL b z.1 z.2 size fo vo []) (h1,h2) M
theorem rlall0 (h1 h2:SlH):Spec 144 [ptr b,.int .i64 0] (pt b [sl h1,sl h2,.int .i64 (size:Int)] 145::R) fun u L'=>u=sl h1∧L'=pt b [sl h1,sl h2,.int .i64 (size:Int)] 145::R:=by
 refine zGz zk144 Tryz.func144 ?_;intro G;(repeat'(first|refine zA ?_;repeat intro nb|refine zB ?_ ?_<;>intro hc<;>try exact no hc|refine zH ?_ ?_<;>(intro hg;rw[hg];try exact no hg)));all_goals exact zXz
theorem rlall1 (h1 h2:SlH):Spec 144 [ptr b,.int .i64 1] (pt b [sl h1,sl h2,.int .i64 (size:Int)] 145::R) fun u L'=>u=sl h2∧L'=pt b [sl h1,sl h2,.int .i64 (size:Int)] 145::R:=by
 refine zGz zk144 Tryz.func144 ?_;intro G;(repeat'(first|refine zA ?_;repeat intro nb|refine zB ?_ ?_<;>intro hc<;>try exact no hc|refine zH ?_ ?_<;>(intro hg;rw[hg];try exact no hg)));all_goals exact zXz
theorem rlen0:Spec 144 [ptr b,.int .i64 0] (rlnA b size fo vo::R) fun u L'=>∃ p c,u=.slice p fo.length c∧L'=rlnA b size fo vo::R:=by
 intro G w M
 obtain ⟨⟨p1,n1,c1⟩,h2,M2,e1,e2⟩:=rln_open b M
 clear M;have M:=M2;clear M2
 simp only at e1
 subst e1
 (refine zGe Tryz.func144 ?_;intro a F;(try simp only[zc,zn] at M))
 (try refine zI zk144 F M ?_;clear F M a;try clear w);(repeat'(first|refine zA ?_;repeat intro nb|refine zB ?_ ?_<;>intro hc<;>try exact no hc|refine zH ?_ ?_<;>(intro hg;rw[hg];try exact no hg)));all_goals try refine zO fun a w F M=>?_
 all_goals refine zE F M ?_
 all_goals exact⟨_,_,rfl,⟨p1,c1,rfl,rfl⟩,rln_close b (M.perms permsA)⟩
theorem rlen1:Spec 144 [ptr b,.int .i64 1] (rlnA b size fo vo::R) fun u L'=>∃ p c,u=.slice p vo.length c∧L'=rlnA b size fo vo::R:=by
 intro G w M
 obtain ⟨h1,⟨p1,n1,c1⟩,M2,e1,e2⟩:=rln_open b M
 clear M;have M:=M2;clear M2
 simp only at e2
 subst e2
 (refine zGe Tryz.func144 ?_;intro a F;(try simp only[zc,zn] at M))
 (try refine zI zk144 F M ?_;clear F M a;try clear w);(repeat'(first|refine zA ?_;repeat intro nb|refine zB ?_ ?_<;>intro hc<;>try exact no hc|refine zH ?_ ?_<;>(intro hg;rw[hg];try exact no hg)));all_goals try refine zO fun a w F M=>?_
 all_goals refine zE F M ?_
 all_goals exact⟨_,_,rfl,⟨p1,c1,rfl,rfl⟩,rln_close b (M.perms permsA)⟩
theorem rlpush0O (h1 h2:SlH) (i:Nat) (hf:fo.length<size) (hs:size≤4096):Spec 147 [ptr b,.int .i64 0,.int .i64 i] (rlnL b h1 h2 size fo vo R) fun u L'=>∃ h1',u=.int .i64 0∧L'=rlnL b h1' h2 size (fo++[i]) vo R:=by
 have hl:=fun R=>rlall0 b R size h1 h2
 refine zGz zk147 Tryz.func147 ?_;intro G;(repeat'(first|refine zA ?_;repeat intro nb|refine zC ?_;(first|refine kp (k:=144) (hl _) ?_|refine ac_appendE (f:=natL) (ys:=fo) rfl rfl inferInstance rfl rfl pullA inferInstance gsA rfl rfl (by simp;omega) ?_;intro nv|refine ac_appendH (f:=natL) (xs:=fo) (ys:=[i]) rfl rfl inferInstance rfl rfl pullA inferInstance gsA rfl rfl (by simp;omega) ?_;intro nv2)|refine zB ?_ ?_<;>intro hc<;>try exact no hc|refine zH ?_ ?_<;>(intro hg;rw[hg];try exact no hg)));all_goals try refine zO fun a w F M=>?_
 all_goals refine zE F M ?_
 have M2:=M.roP (v:=sl nv2) pullA
 exact⟨_,_,rfl,⟨nv2,rfl,rfl⟩,M2.perms permsA⟩
theorem rlpush1O (h1 h2:SlH) (i:Nat) (hf:vo.length<size) (hs:size≤4096):Spec 147 [ptr b,.int .i64 1,.int .i64 i] (rlnL b h1 h2 size fo vo R) fun u L'=>∃ h2',u=.int .i64 0∧L'=rlnL b h1 h2' size fo (vo++[i]) R:=by
 have hl:=fun R=>rlall1 b R size h1 h2
 refine zGz zk147 Tryz.func147 ?_;intro G;(repeat'(first|refine zA ?_;repeat intro nb|refine zC ?_;(first|refine kp (k:=144) (hl _) ?_|refine ac_appendE (f:=natL) (ys:=vo) rfl rfl inferInstance rfl rfl pullA inferInstance gsA rfl rfl (by simp;omega) ?_;intro nv|refine ac_appendH (f:=natL) (xs:=vo) (ys:=[i]) rfl rfl inferInstance rfl rfl pullA inferInstance gsA rfl rfl (by simp;omega) ?_;intro nv2)|refine zB ?_ ?_<;>intro hc<;>try exact no hc|refine zH ?_ ?_<;>(intro hg;rw[hg];try exact no hg)));all_goals try refine zO fun a w F M=>?_
 all_goals refine zE F M ?_
 have M2:=M.roP (v:=sl nv2) pullA
 exact⟨_,_,rfl,⟨nv2,rfl,rfl⟩,M2.perms permsA⟩
theorem rlpush0 (i:Nat) (hf:fo.length<size) (hs:size≤4096):Spec 147 [ptr b,.int .i64 0,.int .i64 i] (rlnA b size fo vo::R) fun u L'=>u=.int .i64 0∧L'=rlnA b size (fo++[i]) vo::R:=by
 intro G w M
 obtain ⟨h1,h2,M2,e1,e2⟩:=rln_open b M
 refine(rlpush0O b R size fo vo h1 h2 i hf hs G w M2).mono ?_
 rintro e w' ⟨u,L',he,⟨h1',rfl,rfl⟩,M'⟩
 exact⟨_,_,he,⟨rfl,rfl⟩,rln_close b M'⟩
theorem rlpush1 (i:Nat) (hf:vo.length<size) (hs:size≤4096):Spec 147 [ptr b,.int .i64 1,.int .i64 i] (rlnA b size fo vo::R) fun u L'=>u=.int .i64 0∧L'=rlnA b size fo (vo++[i])::R:=by
 intro G w M
 obtain ⟨h1,h2,M2,e1,e2⟩:=rln_open b M
 refine(rlpush1O b R size fo vo h1 h2 i hf hs G w M2).mono ?_
 rintro e w' ⟨u,L',he,⟨h1',rfl,rfl⟩,M'⟩
 exact⟨_,_,he,⟨rfl,rfl⟩,rln_close b M'⟩
theorem Spec.rln {k:FuncId} {us:List Value} {v:Value} {size:Nat} {fo vo:List Nat} {b:Nat} {R:List Asn} (h:∀ h1 h2:SlH,h1.n=fo.length→h2.n=vo.length→Spec k us (rlnL b h1 h2 size fo vo R) fun u L'=>u=v∧L'=rlnL b h1 h2 size fo vo R):Spec k us (rlnA b size fo vo::R) fun u L'=>u=v∧L'=rlnA b size fo vo::R:=by
 intro G w M
 obtain ⟨h1,h2,M2,e1,e2⟩:=rln_open b M
 refine(h h1 h2 e1 e2 G w M2).mono ?_
 rintro e w' ⟨u,L',he,⟨rfl,rfl⟩,M'⟩
 exact⟨_,_,he,⟨rfl,rfl⟩,rln_close b M'⟩
theorem rlheadO_f (i:Nat) (r vo:List Nat) (h1 h2:SlH):Spec 296 [ptr b] (rlnL b h1 h2 size (i::r) vo R) fun u L'=>u=.tuple [.int .i64 i,.int .i64 0,.bool true].toArray∧L'=rlnL b h1 h2 size (i::r) vo R:=by
 have hi:(i::r)[Int.toNat 0]? = some i:=rfl
 have hn:0<(i::r).length:=by simp
 refine zGz zk296 Tryz.func296 ?_;intro G;(repeat'(first|refine zA ?_;repeat intro nb|refine zB ?_ ?_<;>intro hc<;>try exact no hc|refine zH ?_ ?_<;>(intro hg;rw[hg];try exact no hg)));all_goals try refine zO fun a w F M=>?_
 all_goals refine zE F M ?_
 all_goals exact⟨_,_,rfl,⟨rfl,rfl⟩,M.perms permsA⟩
theorem rlheadO_v (i:Nat) (r:List Nat) (h1 h2:SlH):Spec 296 [ptr b] (rlnL b h1 h2 size [] (i::r) R) fun u L'=>u=.tuple [.int .i64 i,.int .i64 1,.bool true].toArray∧L'=rlnL b h1 h2 size [] (i::r) R:=by
 have hi:(i::r)[Int.toNat 0]? = some i:=rfl
 have hn:0<(i::r).length:=by simp
 have hn0:¬0<([]:List Nat).length:=by simp
 refine zGz zk296 Tryz.func296 ?_;intro G;(repeat'(first|refine zA ?_;repeat intro nb|refine zB ?_ ?_<;>intro hc<;>try exact no hc|refine zH ?_ ?_<;>(intro hg;rw[hg];try exact no hg)));all_goals try refine zO fun a w F M=>?_
 all_goals refine zE F M ?_
 all_goals exact⟨_,_,rfl,⟨rfl,rfl⟩,M.perms permsA⟩
theorem rlheadO_n (h1 h2:SlH):Spec 296 [ptr b] (rlnL b h1 h2 size [] [] R) fun u L'=>u=.tuple [.int .i64 0,.int .i64 0,.bool false].toArray∧L'=rlnL b h1 h2 size [] [] R:=by
 refine zGz zk296 Tryz.func296 ?_;intro G;(repeat'(first|refine zA ?_;repeat intro nb|refine zB ?_ ?_<;>intro hc<;>try exact no hc|refine zH ?_ ?_<;>(intro hg;rw[hg];try exact no hg)));all_goals try refine zO fun a w F M=>?_
 all_goals refine zE F M ?_
 all_goals exact⟨_,_,rfl,⟨rfl,rfl⟩,M.perms permsA⟩
theorem rlhead_f (i:Nat) (r vo:List Nat):Spec 296 [ptr b] (rlnA b size (i::r) vo::R) fun u L'=>u=.tuple [.int .i64 i,.int .i64 0,.bool true].toArray∧L'=rlnA b size (i::r) vo::R:=Spec.rln fun h1 h2 _ _=>rlheadO_f b R size i r vo h1 h2
theorem rlhead_v (i:Nat) (r:List Nat):Spec 296 [ptr b] (rlnA b size [] (i::r)::R) fun u L'=>u=.tuple [.int .i64 i,.int .i64 1,.bool true].toArray∧L'=rlnA b size [] (i::r)::R:=Spec.rln fun h1 h2 _ _=>rlheadO_v b R size i r h1 h2
theorem rlhead_n:Spec 296 [ptr b] (rlnA b size [] []::R) fun u L'=>u=.tuple [.int .i64 0,.int .i64 0,.bool false].toArray∧L'=rlnA b size [] []::R:=Spec.rln fun h1 h2 _ _=>rlheadO_n b R size h1 h2
theorem rlpop_f (i:Nat) (r vo:List Nat):Spec 299 [ptr b] (rlnA b size (i::r) vo::R) fun u L'=>u=.tuple [.int .i64 i,.int .i64 0,.bool true].toArray∧L'=rlnA b size r vo::R:=by
 have hh:=fun (h1 h2:SlH) R=>rlheadO_f b R size i r vo h1 h2
 intro G w M
 obtain ⟨h1,h2,M2,e1,e2⟩:=rln_open b M
 clear M;have M:=M2;clear M2
 have e3:1≤h1.n:=by rw[e1];simp
 (refine zGe Tryz.func299 ?_;intro a F;(try simp only[zc,zn] at M))
 (try refine zI zk299 F M ?_;clear F M a;try clear w);(repeat'(first|refine zV (h:=⟨_,by((exact rt_from (j:=1) rfl rfl rfl inferInstance e3)),?_⟩)|refine zA1 ?_;repeat intro(nb:Nat)|refine zC ?_;refine kp (k:=296) (hh h1 h2 _) ?_|refine zB ?_ ?_<;>intro hc<;>try exact no hc|refine zH ?_ ?_<;>(intro hg;rw[hg];try exact no hg)));all_goals try refine zO fun a w F M=>?_
 all_goals refine zE F M ?_
 have M2:=Mem.roFrom (f:=natL) (k:=1) inferInstance (h:=h1) (xs:=i::r) (j:=1) (L:=pt b [sl (fromH h1 1 1),sl h2,.int .i64 (size:Int)] 145::roT natL 1 (sl h2) vo::(R++G)) (M.perms permsA) (by simp)
 exact⟨_,_,rfl,⟨rfl,rfl⟩,rln_close b (h1:=fromH h1 1 1) (h2:=h2) (M2.perms permsA)⟩
theorem rlpop_v (i:Nat) (r:List Nat):Spec 299 [ptr b] (rlnA b size [] (i::r)::R) fun u L'=>u=.tuple [.int .i64 i,.int .i64 1,.bool true].toArray∧L'=rlnA b size [] r::R:=by
 have hh:=fun (h1 h2:SlH) R=>rlheadO_v b R size i r h1 h2
 intro G w M
 obtain ⟨h1,h2,M2,e1,e2⟩:=rln_open b M
 clear M;have M:=M2;clear M2
 have e3:1≤h2.n:=by rw[e2];simp
 (refine zGe Tryz.func299 ?_;intro a F;(try simp only[zc,zn] at M))
 (try refine zI zk299 F M ?_;clear F M a;try clear w);(repeat'(first|refine zV (h:=⟨_,by((exact rt_from (j:=1) rfl rfl rfl inferInstance e3)),?_⟩)|refine zA1 ?_;repeat intro(nb:Nat)|refine zC ?_;refine kp (k:=296) (hh h1 h2 _) ?_|refine zB ?_ ?_<;>intro hc<;>try exact no hc|refine zH ?_ ?_<;>(intro hg;rw[hg];try exact no hg)));all_goals try refine zO fun a w F M=>?_
 all_goals refine zE F M ?_
 have M2:=Mem.roFrom (f:=natL) (k:=1) inferInstance (h:=h2) (xs:=i::r) (j:=1) (L:=pt b [sl h1,sl (fromH h2 1 1),.int .i64 (size:Int)] 145::roT natL 1 (sl h1) []::(R++G)) (M.perms permsA) (by simp)
 exact⟨_,_,rfl,⟨rfl,rfl⟩,rln_close b (h1:=h1) (h2:=fromH h2 1 1) (M2.perms permsA)⟩
theorem rlahead0 (hf:fo.length≤4096):Spec 213 [ptr b,.int .i64 0] (rlnA b size fo vo::R) fun u L'=>∃ h,u=sl h∧L'=ownT 3 natL 1 (sl h) fo::rlnA b size fo vo::R:=by
 intro G w M
 obtain ⟨h1,h2,M2,e1,e2⟩:=rln_open b M
 clear M;have M:=M2;clear M2
 (refine zGe Tryz.func213 ?_;intro a F;(try simp only[zc,zn] at M))
 (try refine zI zk213 F M ?_;clear F M a;try clear w);(repeat'(first|refine zA ?_;repeat intro nb|refine zC ?_;refine ac_appendE (f:=natL) (ys:=fo) rfl rfl inferInstance rfl rfl pullA inferInstance gsA rfl rfl (by simp;omega) ?_;intro nv|refine zB ?_ ?_<;>intro hc<;>try exact no hc|refine zH ?_ ?_<;>(intro hg;rw[hg];try exact no hg)));all_goals try refine zO fun a w F M=>?_
 all_goals refine zE F M ?_
 have M2:=rln_close b (h1:=h1) (h2:=h2) (L:=ownT 3 natL 1 (sl nv) fo::(R++G)) (M.perms permsA)
 exact⟨_,_,rfl,⟨nv,rfl,rfl⟩,M2.perms permsA⟩
theorem rlahead1 (hf:fo.length≤4096) (hv:vo.length≤4096):Spec 213 [ptr b,.int .i64 1] (rlnA b size fo vo::R) fun u L'=>∃ h,u=sl h∧L'=ownT 3 natL 1 (sl h) (fo++vo)::rlnA b size fo vo::R:=by
 intro G w M
 obtain ⟨h1,h2,M2,e1,e2⟩:=rln_open b M
 clear M;have M:=M2;clear M2
 (refine zGe Tryz.func213 ?_;intro a F;(try simp only[zc,zn] at M))
 (try refine zI zk213 F M ?_;clear F M a;try clear w);(repeat'(first|refine zA ?_;repeat intro nb|refine zC ?_;(first|refine ac_appendE (f:=natL) (ys:=fo) rfl rfl inferInstance rfl rfl pullA inferInstance gsA rfl rfl (by simp;omega) ?_;intro nv|refine ac_appendH (f:=natL) (xs:=fo) (ys:=vo) rfl rfl inferInstance rfl rfl pullA inferInstance gsA rfl rfl (by simp;omega) ?_;intro nv2)|refine zB ?_ ?_<;>intro hc<;>try exact no hc|refine zH ?_ ?_<;>(intro hg;rw[hg];try exact no hg)));all_goals try refine zO fun a w F M=>?_
 all_goals refine zE F M ?_
 have M2:=rln_close b (h1:=h1) (h2:=h2) (L:=ownT 3 natL 1 (sl nv2) (fo++vo)::(R++G)) (M.perms permsA)
 exact⟨_,_,rfl,⟨nv2,rfl,rfl⟩,M2.perms permsA⟩
theorem rlenC (cl:Nat) (hcl:cl≤1):Spec 144 [ptr b,.int .i64 cl] (rlnA b size fo vo::R) fun u L'=>∃ p c,u=.slice p (if cl=0 then fo else vo).length c∧L'=rlnA b size fo vo::R:=by
 rcases (by omega:cl=0∨cl=1) with rfl|rfl
 ·exact rlen0 b R size fo vo
 ·exact rlen1 b R size fo vo
theorem rlaheadC (cl:Nat) (hcl:cl≤1) (hf:fo.length≤4096) (hv:vo.length≤4096):Spec 213 [ptr b,.int .i64 cl] (rlnA b size fo vo::R) fun u L'=>∃ h,u=sl h∧L'=ownT 3 natL 1 (sl h) (if cl=0 then fo else fo++vo)::rlnA b size fo vo::R:=by
 rcases (by omega:cl=0∨cl=1) with rfl|rfl
 ·exact rlahead0 b R size fo vo hf
 ·exact rlahead1 b R size fo vo hf hv
theorem rlpushC (cl:Nat) (hcl:cl≤1) (i:Nat) (hf:(if cl=0 then fo else vo).length<size) (hs:size≤4096):Spec 147 [ptr b,.int .i64 cl,.int .i64 i] (rlnA b size fo vo::R) fun u L'=>u=.int .i64 0∧L'=rlnA b size (if cl=0 then fo++[i] else fo) (if cl=0 then vo else vo++[i])::R:=by
 rcases (by omega:cl=0∨cl=1) with rfl|rfl
 ·exact rlpush0 b R size fo vo i hf hs
 ·exact rlpush1 b R size fo vo i hf hs
end
end
end
section
open Go.RowKit Go.Maps
section
variable {o:Oper} {n:Nat} {l:List (Nat × Value)} {L:List Asn} {C:Value→List Asn→Prop}
theorem ac_copyM {x y:Operand} {ats:Array TypeId} {t u:TypeId} (ho:o.op=.call {callee:=.builtin .copy,args:=#[x,y],argTypes:=ats}) (hat:ats = #[t,u]) {e:TypeId} {z:Value} {size bytes:Nat} (ht:ST t e z size bytes) {b j dl dc:Nat} (hx:evl l x=some (.slice (some ⟨b,j*size,none⟩) dl dc))
  {v:Value} (hy:evl l y=some v) {k:Nat} {cs:List Value} (hg:GS L size v k cs) (hone:∀ c∈cs,c.oneCell'=true) {k':Nat} {cs':List Value} (hk:Nat.min k dl=k') (hcs:cs.take (k'*size)=cs') {m cap:Nat} {xs:List Value} {L':List Asn} (hp:Pull L (own e size (sl ⟨some ⟨b,0,none⟩,m,cap⟩) m xs) L') (hj:j+dl≤m)
  (h:C (.int .i64 k') (own e size (sl ⟨some ⟨b,0,none⟩,m,cap⟩) m (xs.take (j*size)++cs'++xs.drop (j*size+cs'.length))::L')):AC o l L n C:=fun G a w F M=>by
 subst hat
 obtain ⟨i,hu,hi,hzi,hsz,hby,hzs,hpos⟩:=st_info ht
 have hs:=hg w M.drop_app
 have M1:=M.pull (hp.app G)
 obtain ⟨s,ho1,hlt⟩:=M1.head
 obtain ⟨hlen,h8|⟨g,cap',cur,h8,_,h3,h4,h5,h6,h7⟩⟩:=ho1
 ·simp[sl] at h8
 simp only[sl,Value.slice.injEq,Option.some.injEq,Addr.mk.injEq] at h8
 obtain ⟨⟨rfl,_⟩,_,rfl⟩:=h8
 have hk1:k'≤k:=by rw[← hk];exact Nat.min_le_left _ _
 have hk2:k'≤dl:=by rw[← hk];exact Nat.min_le_right _ _
 have hkk:k'*size≤k*size:=Nat.mul_le_mul_right _ hk1
 have hcl0:cs.length=k*size:=hs.1
 have hcl:cs'.length=k'*size:=by rw[← hcs,List.length_take];omega
 have hone':∀ c∈cs',c.oneCell'=true:=fun c hc=>hone c (List.mem_of_mem_take (hcs ▸ hc))
 have hle:j*size+k'*size≤m*size:=by rw[← Nat.add_mul];exact Nat.mul_le_mul_right _ (by omega)
 have hle2:m*size≤cap*size:=Nat.mul_le_mul_right _ h4
 have hst:=run_storeCells_at (P:=Tryz.prog) b (j*size) e cs' 0 cur w h3 (by rw[hcl];omega) hone'
 simp only[Nat.add_zero] at hst
 have hr:(Builtin.copy_ #[t,u] o.type #[.slice (some ⟨b,j*size,none⟩) dl dc,v]).run Tryz.prog w=.ok (.int .i64 k') (w.setRow b (cur.toList.take (j*size)++cs'++cur.toList.drop (j*size+cs'.length)).toArray):=by
  rcases hs.2 with⟨⟨a0,cp,rfl⟩,rfl⟩|⟨b2,off,cp,rfl,_,_,hc⟩
  ·have hk0:k'=0:=by omega
   subst hk0
   have hcs0:cs'=[]:=List.eq_nil_of_length_eq_zero (by rw[hcl];simp)
   subst hcs0
   cases a0 with
   | none=>simp[Builtin.copy_,run_underlying hu,Builtin.lenOf,Builtin.firstCells,sizeOf,typeInfo,hi,hst,goInt]
   | some a0 =>
    have hl:=run_loadCells_list (P:=Tryz.prog) w a0 [] (by simp)
    simp at hl
    simp[Builtin.copy_,run_underlying hu,Builtin.lenOf,Builtin.firstCells,sizeOf,typeInfo,hi,hst,goInt,hl]
  ·have hl:=run_loadCells_list (P:=Tryz.prog) w ⟨b2,off,none⟩ cs' (fun q c hq=>by
    rw[add0]
    refine hc q c ?_
    rw[← hcs,List.getElem?_take] at hq
    split at hq
    ·exact hq
    ·cases hq)
   rw[hcl] at hl
   simp[Builtin.copy_,run_underlying hu,Builtin.lenOf,Builtin.firstCells,sizeOf,typeInfo,hi,hsz,hk,hst,goInt,hl]
 have:(execOp a.eval o).run Tryz.prog w=.ok (.value (.int .i64 k')) (w.setRow b (cur.toList.take (j*size)++cs'++cur.toList.drop (j*size+cs'.length)).toArray):=by
  unfold execOp
  rw[ho]
  simp[resolve,invoke,builtin,F.eval hx,F.eval hy,hr]
 rw[this]
 refine⟨_,h,M1.change fun s' hs'=>?_⟩
 obtain ⟨_,h8|⟨g2,cap2,cur2,h8,rfl,_⟩⟩:=hs'.now
 ·simp[sl] at h8
 simp only[sl,Value.slice.injEq,Option.some.injEq,Addr.mk.injEq] at h8
 obtain ⟨⟨rfl,_⟩,_⟩:=h8
 have lc:cur.toList.length=cap*size:=by rw[Array.length_toList];exact h6
 refine⟨chg_setRow,[b],ok_own ?_ (setRow_heap w b cur _ e _ h3) h4 h5 ?_ ?_,fun x hx=>.inl hx⟩
 ·simp only[List.length_append,List.length_take,List.length_drop,hcl,hlen];omega
 ·simp only[List.size_toArray,List.length_append,List.length_take,List.length_drop,hcl,lc];omega
 ·simp only[List.toList_toArray]
  generalize hA:j*size=A at *
  generalize hB:k'*size=B at *
  generalize hN:m*size=N at *
  generalize hD:cap*size=D at *
  rw[← h7,List.take_take,Nat.min_eq_left (by omega),hcl,List.drop_take,List.take_append,List.take_append]
  have l1:(cur.toList.take A).length=A:=by rw[List.length_take];omega
  rw[List.take_of_length_le (l:=cur.toList.take A) (by omega),l1,List.take_of_length_le (l:=cs') (by omega),List.length_append,l1,hcl]
end
section
variable {o:Oper} {n:Nat} {l:List (Nat × Value)} {L:List Asn} {C:Value→List Asn→Prop}
theorem ac_copyMT {α:Type} {f:α→List Value} {x y:Operand} {ats:Array TypeId} {t u:TypeId} (ho:o.op=.call {callee:=.builtin .copy,args:=#[x,y],argTypes:=ats}) (hat:ats = #[t,u]) {e:TypeId} {z:Value} {size bytes:Nat} (ht:ST t e z size bytes) (he:EL f size) {b j dl dc:Nat} (hx:evl l x=some (.slice (some ⟨b,j*size,none⟩) dl dc))
  {v:Value} (hy:evl l y=some v) {ys:List α} {m:Nat} (hg:GS L size v m (ys.flatMap f)) (hm:m=ys.length) {k':Nat} (hk:Nat.min m dl=k') {cap:Nat} {xs:List α} {hd:SlH} {L':List Asn} (hp:Pull L (ownT e f size (sl hd) xs) L') (hh:hd=⟨some ⟨b,0,none⟩,xs.length,cap⟩) (hj:j+dl≤xs.length)
  (h:C (.int .i64 k') (ownT e f size (sl hd) (xs.take j++ys.take k'++xs.drop (j+k'))::L')):AC o l L n C:=by
 subst hh;subst hm
 have hk1:k'≤ys.length:=by rw[← hk];exact Nat.min_le_left _ _
 have hk2:k'≤dl:=by rw[← hk];exact Nat.min_le_right _ _
 have hyl:(ys.take k').length=k':=by rw[List.length_take];omega
 refine ac_copyM ho hat ht hx hy hg (flat_one ys) hk (flat_take he.len ys k') (m:=xs.length) (cap:=cap) hp hj ?_
 have hl:(xs.take j++ys.take k'++xs.drop (j+k')).length=xs.length:=by simp;omega
 unfold ownT at h
 rw[hl] at h
 have e1:(xs.flatMap f).take (j*size)++(ys.take k').flatMap f++(xs.flatMap f).drop (j*size+((ys.take k').flatMap f).length)=(xs.take j++ys.take k'++xs.drop (j+k')).flatMap f:=by
  rw[flat_lenE he,hyl,← Nat.add_mul,flat_take he.len,flat_drop he.len]
  simp
 rw[e1];exact h
theorem rt_fromC {t:TypeId} {x y:Operand} (ho:o.op=.slice t x (some y) none none) {b m c:Nat} (hx:evl l x=some (sl ⟨some ⟨b,0,none⟩,m,c⟩)) {k:IntKind} {j:Nat} (hy:evl l y=some (.int k (j:Int))) {e:TypeId} {z:Value} {size bytes:Nat} (ht:ST t e z size bytes) (h1:j≤m) (h2:j<c):RT o l L n (.slice (some ⟨b,j*size,none⟩) (m - j) (c - j)):=by
 have:=rt_from (L:=L) (n:=n) ho hx hy ht h1
 have e1:(sl (fromH ⟨some ⟨b,0,none⟩,m,c⟩ j size))=.slice (some ⟨b,j*size,none⟩) (m - j) (c - j):=by
  have:¬c=j:=by omega
  simp[sl,this,Addr.add]
  try(intro h;omega)
 rw[e1] at this
 exact this
theorem gs_toS {α:Type} {f:α→List Value} {k:Nat} {L':List Asn} {e:TypeId} {h:SlH} {xs:List α} (hp:Pull L (ownT e f k (sl h) xs) L') (he:EL f k) {j:Nat} (hj:j≤xs.length):GS L k (sl ⟨h.a,j,h.c⟩) j ((xs.take j).flatMap f):=fun w M=>by
 have:=((gs_own hp) w M).to hj
 rw[flat_take he.len] at this
 exact this
end
theorem mul1_spec (m:Nat) (hm:m<18446744073709551616) (R:List Asn):Spec 163 [.int .u64 1,.int .u64 (m:Int)] R fun u L'=>u=.tuple [.int .u64 0,.int .u64 (m:Int)].toArray∧L'=R:=fun G w M=>by
 have:=Tryz.bits_Mul 1 m (by decide) hm w
 have e1:1*m / 18446744073709551616=0:=by omega
 have e2:1*m % 18446744073709551616=m:=by omega
 rw[e1,e2] at this
 refine this.mono ?_
 rintro e w' ⟨rfl,rfl⟩
 exact⟨_,_,rfl,⟨rfl,rfl⟩,M⟩
def repL (o:Opn) (c m:Nat):List Opn:=List.replicate c o++List.replicate (m - c) (oz 0)
theorem repL_len {o:Opn} {c m:Nat} (h:c≤m):(repL o c m).length=m:=by simp[repL];omega
theorem repeat_spec (h:SlH) (o:Opn) (m:Nat) (hm:m≤1048576) (R:List Asn):Spec 100 [sl h,.int .i64 (m:Int)] (ownT 42 opL 4 (sl h) [o]::R) fun u L'=>∃ h,u=sl h∧L'=ownT 42 opL 4 (sl h) (List.replicate m o)::R:=by
 have hmu:=fun R=>mul1_spec m (by omega) R
 have c1:IntKind.u64.wrap 1=1:=by rw[IntKind.wrap_u64];rfl
 have c2:IntKind.u64.wrap (m:Int)=(m:Int):=by rw[IntKind.wrap_u64];omega
 have c3:IntKind.i64.wrap (m:Int)=(m:Int):=IntWalk.i64_in _ ⟨by omega,by omega⟩
 refine zGz zk100 Tryz.func100 ?_;intro G;(repeat'(first|refine zV (h:=⟨_,by((first|(apply rt_conv;(exact rfl);(exact rfl);(exact inferInstance);(exact inferInstance);(first|exact c1|exact c2|exact c3)))),?_⟩)|refine zA1 ?_;repeat intro(nb:Nat)|refine zC ?_;(first|refine kpW (k:=163) (hmu _) ?_|refine ac_makeT (f:=opL) inferInstance (oz 0) rfl rfl inferInstance rfl (m:=m) rfl rfl (by omega) (by omega) ?_;intro nm)|refine zB ?_ ?_<;>intro hc<;>try exact no hc|refine zH ?_ ?_<;>(intro hg;rw[hg];try exact no hg)));all_goals try refine zO fun a w F M=>?_
 (try refine zI zk100 F M ?_;clear F M a;try clear w);(repeat'(first|refine zA ?_;repeat intro nb|refine zC ?_;refine ac_copyMT (f:=opL) rfl rfl inferInstance inferInstance (b:=nm) (j:=0) (dl:=m) (dc:=m) rfl rfl (ys:=[o]) (k':=Nat.min 1 m) gsA rfl rfl (cap:=m) (xs:=List.replicate m (oz 0)) (hd:=⟨some ⟨nm,0,none⟩,m,m⟩) pullA (by simp) (by simp) ?_|refine zB ?_ ?_<;>intro hc<;>try exact no hc|refine zH ?_ ?_<;>(intro hg;rw[hg];try exact no hg)));all_goals try refine zO fun a w F M=>?_
 have e0:(List.replicate m (oz 0)).take 0++[o].take (Nat.min 1 m)++(List.replicate m (oz 0)).drop (0+Nat.min 1 m)=repL o (Nat.min 1 m) m:=by
  unfold repL
  cases m with
  | zero=>rfl
  | succ m=>rw[show Nat.min 1 (m+1)=1 from Nat.min_eq_left (by omega)];simp
 rw[e0] at M
 have hk0:Nat.min 1 m≤m∧(Nat.min 1 m=0→m=0):=by
  have:Nat.min 1 m=min 1 m:=rfl
  omega
 obtain ⟨k0,hk1⟩:∃ k0,Nat.min 1 m=k0:=⟨_,rfl⟩
 rw[hk1] at M hk0
 rw[hk1] at F
 refine svLoop F M k0 (fun c=>[(8,.int .i64 c)]) (fun c=>[ownT 42 opL 4 (sl ⟨some ⟨nm,0,none⟩,m,m⟩) (repL o c m)]) (fun c=>c≤m∧(c=0→m=0)) (fun c=>m - c) [] hk0 ?_ (hR:=by(repeat (first|exact Pulls.nil|(apply Pulls.cons;(focus ((repeat (first|exact Pull.here|apply Pull.there));done))))))
 (rintro c ⟨q1,q2⟩ a w F M;(try simp only[zc,zn] at F M q1 q2 ⊢))
 have hrl:=repL_len (o:=o) q1
 by_cases hcm:c<m
 ·obtain ⟨kk,hkk⟩:∃ kk,Nat.min c (m - c)=kk:=⟨_,rfl⟩
  have hk2:kk≤c∧kk≤m - c∧(0<c→0<kk):=by
   have:Nat.min c (m - c)=min c (m - c):=rfl
   omega
  have hstep:(repL o c m).take c++((repL o c m).take c).take kk++(repL o c m).drop (c+kk)=repL o (c+kk) m:=by
   unfold repL
   have e1:(List.replicate c o++List.replicate (m - c) (oz 0)).take c=List.replicate c o:=by
    rw[List.take_append_of_le_length (by simp)];simp
   have e2:(List.replicate c o++List.replicate (m - c) (oz 0)).drop (c+kk)=List.replicate (m - (c+kk)) (oz 0):=by
    rw[List.drop_append,List.drop_of_length_le (by simp)];simp;omega
   rw[e1,e2,List.take_replicate,Nat.min_eq_left hk2.1,List.replicate_append_replicate]
  have htl:((repL o c m).take c).length=c:=by rw[List.length_take];omega
  ((try(refine zI (⟨List.range 64,(zk100).d,[]⟩) F M ?_;clear F M a;(try clear w)));(repeat'(first|(refine zDL (id:=9) [7] [] [(7,[0])] [0,1,2,3,4,5,6,7,8] ?_)|with_reducible refine zQo ?_|(refine zV (h:=⟨_,by((first|(refine rt_fromC (b:=nm) (m:=m) (c:=m) (j:=c) (k:=.i64) rfl rfl rfl inferInstance q1 hcm)|(refine rt_to (h:=⟨some ⟨nm,0,none⟩,m,m⟩) (k:=.i64) (j:=c) rfl rfl rfl inferInstance q1))),?_⟩))|(refine zA1 ?_;(repeat intro(nb:Nat)))|((refine zC ?_);((refine ac_copyMT (f:=opL) rfl rfl inferInstance inferInstance (b:=nm) (j:=c) (dl:=m - c) (dc:=m - c) rfl rfl (ys:=(repL o c m).take c) (gs_toS pullA inferInstance (by omega)) htl.symm hkk (cap:=m) (xs:=repL o c m) (hd:=⟨some ⟨nm,0,none⟩,m,m⟩) pullA (by rw[hrl]) (by rw[hrl];omega) ?_)))|(refine zB ?_ ?_<;>intro hc<;>(try exact no hc))|(refine zH ?_ ?_<;>(intro hg;rw[hg];(try exact no hg)))));(all_goals(try refine zO fun a w F M=>?_)))
  rw[hstep] at M
  have e5:(c:Int)+(kk:Int)=((c+kk:Nat):Int):=by omega
  rw[e5] at F
  exact sv_again F M (c+kk) kpA permsA ⟨by omega,by omega⟩ (by omega)
 ·obtain rfl:c=m:=by omega
  have e6:repL o c c=List.replicate c o:=by simp[repL]
  rw[e6] at M
  rw[e6] at hrl
  (try refine zI zk100 F M ?_;clear F M a;try clear w);(repeat'(first|refine zA ?_;repeat intro nb|refine zB ?_ ?_<;>intro hc<;>try exact no hc|refine zH ?_ ?_<;>(intro hg;rw[hg];try exact no hg)));all_goals try refine zO fun a w F M=>?_
  all_goals refine zE F M ?_
  all_goals exact⟨_,_,rfl,⟨_,rfl,rfl⟩,M.perms permsA⟩
def tickO:Opn:=⟨7,0,0,0⟩
theorem ticks_spec (n:Int) (hn:n≤1048576) (R:List Asn):Spec 37 [.int .i64 n] R fun u L'=>∃ h,u=sl h∧L'=ownT 42 opL 4 (sl h) (List.replicate n.toNat tickO)::R:=by
 have hrp:=fun (h:SlH) R=>repeat_spec h tickO n.toNat (by omega) R
 have hmx:min (max n 0) 1048576=(n.toNat:Int):=by omega
 have e1:(if 0>n then 0 else n)=(n.toNat:Int):=by split<;>omega
 have e2:(if (1048576:Int)<(n.toNat:Int) then 1048576 else (n.toNat:Int))=(n.toNat:Int):=by split<;>omega
 refine zGz zk37 Tryz.func37 ?_;intro G;(repeat'(first|refine zV (h:=⟨_,by((first|(refine rt_max2 rfl rfl e1)|(refine rt_min2 rfl rfl e2))),?_⟩)|refine zA1 ?_;repeat intro(nb:Nat)|refine zC ?_;refine acK (L1:=ownT 42 opL 4 (sl ⟨some ⟨nb,0,none⟩,1,1⟩) [tickO]::_) (k:=100) (hrp _ _) ?_;rintro u L' ⟨h,rfl,rfl⟩|refine zB ?_ ?_<;>intro hc<;>try exact no hc|refine zH ?_ ?_<;>(intro hg;rw[hg];try exact no hg)));all_goals try refine zO fun a w F M=>?_
 all_goals refine zE F M ?_
 all_goals exact⟨_,_,rfl,⟨_,rfl,rfl⟩,M.perms permsA⟩
end
end Go.Proofs.YtjbfcacmdahnhaaGreat
