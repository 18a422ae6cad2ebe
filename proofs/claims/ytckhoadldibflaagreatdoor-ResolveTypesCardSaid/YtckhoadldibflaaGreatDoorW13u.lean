/-
  Walks: the reference of the printer. No condition.
-/
import Derived.Test.YtckhoadldibflaaGreatDoorK01
import Derived.Test.YtckhoadldibflaaGreatDoorK37
import Derived.Test.YtckhoadldibflaaGreatDoorK27
import Derived.KernelRfl
namespace Go.Proofs.YtckhoadldibflaaGreatDoor
open Go Go.Aw
set_option maxHeartbeats 12800000
set_option maxRecDepth 20000
set_option linter.unusedVariables false
set_option linter.unusedSimpArgs false

theorem Jk {a b:Int}(h:(a==b)=true):a=b:=by simpa using h
theorem Ku {a b:Int}(h:(a==b)=false):a≠b:=by simpa using h
theorem uO (t:Syn)(p:Pl)(h:Bg t p=0)(hf:Fl t=true)(k0:0≤t.kind)(k18:t.kind≤18)(k4:t.kind≠4):Ap Tryz.prog 179 [.agg (cSyn t)] (.str (Ah t)):=by
 revert h hf k0 k18 k4 p
 refine Syn.ind (P:=fun t=>∀p,Bg t p=0→Fl t=true→0≤t.kind→t.kind≤18→t.kind≠4→Ap Tryz.prog 179 [.agg (cSyn t)] (.str (Ah t))) (fun t ih p h hf k0 k18 k4=>?_) t
 have hi:=Uk h
 have hx:t.text.length≤80:=(Fx hf).1
 have hnm:t.name.length≤80:=(Fx hf).2.1
 have hkl:=X8 hf
 have hbig:=Rk h hf
 have ho:=(Hm h).1
 have hs:=(Hi ho).2.1
 have hfl:=(Hi ho).2.2.2
 have kid:∀(j:Nat) a,t.kids[j]? = some a→a.kind≠4→pN a:=fun j a ha h4=>by
  have ck:=H1 h ha
  have kk:=Zf ck.2
  have hfa:=Ia hf (List.mem_of_getElem? ha)
  exact ⟨ih a (List.mem_of_getElem? ha) _ ck.1 hfa (by omega) kk.2 h4,Rk ck.1 hfa⟩
 have kids:t.kind≠3→∀a∈t.kids,pN a:=fun h3 a ha=>by
  obtain ⟨j,hj⟩:=List.mem_iff_getElem?.1 ha
  refine kid j a hj ?_
  have k:=(H1 h hj).2
  unfold Ee at k
  rw [if_neg (show ¬(t.kind==3)=true by simpa using h3)] at k
  repeat' split at k
  all_goals first | (have:=Ie k;omega) | (have:=S4 k;omega) | (have:=Qx k;omega)
 have wl:=Q2
 have wl1:=wl.1 t.num
 have wl2:=wl.2.1 t.num
 have wl3:=wl.2.2.1 t.num
 have wl4:=wl.2.2.2 t.kind
 have hil:=Lib.itoa_length_le t.num (by omega) (by omega)
 refine Ap.body (n:=165) tok Tryz.func179 rfl rfl rfl fun H=>?_
 refine Ad (Qp (Eu [Iq _,.str _,.str _,Iq _,_,Iq _]) (Qp Db (Aa (AW.seq (Ad (Qp (Qf [Iq _,.str _,.str _,Iq _,_,Iq _]) (Qp Bt (Aa (AW.block ?_)))))))))
 refine Ad (Qp Av (Qp A3 (Aa (Au (fun hc1=>?_) fun hc1=>?_))))
 ·
  have hk:=Jk hc1
  have e:Ah t=(t.kids.map Ah).flatten:=by rw [Cn];unfold Cp;rw [hk];rfl
  refine Ad (Qp Db (Aa (AW.seq (Ad (Qp A0 (Aa (AW.block ?_)))))))
  refine AW.Aat (fun (p:Nat×Aq)=>(⟨[(1,.ptr (cSyn t)),(3,.str p.2),(4,.int .i64 (p.1:Int))],H,165⟩:St)) (fun (p:Nat×Aq)=>p.1≤t.kids.length∧p.2++((t.kids.map Ah).drop p.1).flatten=Ah t) (fun (p:Nat×Aq)=>t.kids.length-p.1) ((0,[])) ?_ (GS.weaken ⟨rfl,rfl,rfl,trivial⟩ (.refl _)) ?_
  · exact ⟨Nat.zero_le _,by rw [e];rfl⟩
  ·
   rintro p hR
   refine AW.seq (Ad (Qp A4 (Qp (Qf [_,Iq _]) (Qp Dg ?_))))
   refine Qp (Ax (n:=t.kids.length) tok rfl rfl rfl (by simp)) ?_
   refine Qp B7 (Aa (Au (fun hc2=>?_) fun hc2=>?_))
   ·
    obtain ⟨x,hxk⟩:=aX (l:=t.kids) (k:=p.1) (by have:=of_decide_eq_true hc2;omega)
    have hlt:=Jr hxk
    have hwx:=kids (by omega) x (List.mem_of_getElem? hxk)
    have hr:=K7 hxk
    have hle:=congrArg List.length hR.2
    rw [hr] at hle
    simp only [List.length_append] at hle
    refine Bl (AW.seq (AW.block (AW.region (Qp Dh (Qp (Qf [_,Iq _]) (Qp Dg (Qp A4 ?_)))))))
    refine Qp (Ag (c:=[Iq _,.str _,.str _,Iq _,_,Iq _]) tok rfl rfl rfl rfl rfl rfl (by omega) (B6 hxk)) ?_
    refine Qp (B2 [Iq _,.str _,.str _,Iq _,_,Iq _]) ?_
    refine Qp (Qc rfl (hwx.1)) ?_
    refine Qp (A2 rfl rfl rfl (by unfold maxLen;(try simp only [List.length_append,List.length_cons,List.length_nil]);omega)) ?_
    refine Qp Db (AOL.nil (Bc (Af (AW.region (Qp A4 (Qp Ei (Qp A0 (Aa ?_))))))))
    refine ⟨(p.1+1,p.2++Ah x),?_,?_,GS.weaken ⟨rfl,rfl,rfl,trivial⟩ (.refl _)⟩
    · exact ⟨by omega,by rw [←hR.2,hr];simp⟩
    · simp only;omega
   ·
    have hkk:(t.kids.map Ah).length≤p.1:=by have:=of_decide_eq_false hc2;rw [List.length_map];omega
    have he:=hR.2
    rw [List.drop_eq_nil_of_le hkk,List.flatten_nil,List.append_nil] at he
    refine AW.exit ?_
    refine A7 (A7 (Bp (Af (Ad (Qp Dh (Qp Db (Aa (AW.ret (Ao ?_)))))))))
    refine Ai ?_
    refine Qr (.str _) ?_
    rw [←he];rfl
 ·
  refine Ad (Qp Av (Qp A3 (Aa (Au (fun hc3=>?_) fun hc3=>?_))))
  ·
   have hk:=Jk hc3
   refine Ad (Qp (B2 [Iq _,.str _,.str _,Iq _,_,Iq _]) ?_)
   refine Qp (Qc rfl (cS t hk (by omega) hx (kids (by omega)) hbig)) ?_
   refine Qp Db (Aa (AW.ret (Ao (Ai ?_))))
   refine Qr (.str _) ?_
   rfl
  ·
   refine Ad (Qp Av (Qp A3 (Aa (Au (fun hc4=>?_) fun hc4=>?_))))
   ·
    have hk:=Jk hc4
    have e:Ah t=t.text ++ [58,32]++Hp t.num:=by rw [Cn];unfold Cp;rw [hk];rfl
    refine AW.seq ?_
    refine AW.draw mixed (fun _=>True) trivial (by kernel_rfl) ?_
    refine Qn 0 rfl (Qf [.str _,.str _,Iq _,_,Iq _]) (Qn 1 rfl Df ?_)
    refine Qn 2 rfl (A2 rfl rfl rfl (by unfold maxLen;(try simp only [List.length_append,List.length_cons,List.length_nil]);omega)) ?_
    refine Qn 3 rfl (Qf [Iq _,_,Iq _]) (Qn 4 rfl Bt ?_)
    refine Qn 5 rfl (Qc rfl (cD t.num)) ?_
    refine Qn 6 rfl (A2 rfl rfl rfl (by unfold maxLen;(try simp only [List.length_append,List.length_cons,List.length_nil]);omega)) ?_
    refine Qn 7 rfl Db ?_
    refine Hs.done _ _ (by kernel_rfl) ?_
    refine Af (AW.ret (Ao (Ai ?_)))
    refine Qr (.str _) ?_
    rw [e]
    try rfl
   ·
    refine Ad (Qp Av (Qp A3 (Aa (Au (fun hc5=>?_) fun hc5=>?_))))
    ·
     have hk:=Jk hc5
     obtain ⟨q0,q1,r,hq⟩:∃q0 q1 r,t.kids=q0::q1::r:=by
      unfold Dr at hs
      rw [hk] at hs
      replace hs:decide (3≤(t.kids.length:Int))=true:=hs
      simp only [decide_eq_true_eq] at hs
      match hq:t.kids with
      | []=>rw [hq] at hs;simp at hs
      | [x]=>rw [hq] at hs;simp at hs
      | x::y::r=>exact ⟨x,y,r,rfl⟩
     have no4:∀(j:Nat) x,1≤j→t.kids[j]? = some x→x.kind≠4:=fun j x hj hx=>by
      have k:=(H1 h hx).2
      unfold Ee at k
      rw [hk] at k
      have e3:((j:Int)==0)=false:=by simp;omega
      simp only [e3] at k
      replace k:(if ((j:Int)==1)=true then Pl.pats else Pl.exps).at x.kind=true:=k
      split at k
      · have:=Qx k;omega
      · have:=S4 k;omega
     have hq1:pN q1:=kid 1 q1 (by rw [hq];rfl) (no4 1 q1 (Nat.le_refl _) (by rw [hq];rfl))
     have hqr:∀x∈r,pN x:=fun x hx=>by
      obtain ⟨j,hj⟩:=List.mem_iff_getElem?.1 hx
      have hj2:t.kids[j+2]? = some x:=by rw [hq];simpa using hj
      exact kid (j+2) x hj2 (no4 (j+2) x (by omega) hj2)
     have hx0:q0.text.length≤80:=(Fx (Ia hf (by rw [hq];simp))).1
     refine Ad (Qp (B2 [Iq _,.str _,.str _,Iq _,_,Iq _]) ?_)
     refine Qp (Qc rfl (qQ t q0 q1 r hk hq (by omega) hx hx0 hq1 hqr hbig)) ?_
     refine Qp Db (Aa (AW.ret (Ao (Ai ?_))))
     refine Qr (.str _) ?_
     rfl
    ·
     refine Ad (Qp Av (Qp A3 (Aa (Au (fun hc6=>?_) fun hc6=>?_))))
     ·
      have hk:=Jk hc6
      refine AW.seq (Ad (Qp (Qf [_,Iq _]) (Qp Dg ?_)))
      refine Qp (Ax (n:=t.kids.length) tok rfl rfl rfl (by simp)) ?_
      refine Qp Av (Aa (Au (fun hc7=>?_) fun hc7=>?_))
      ·
       have e:=zE hk (Yq hc7)
       refine Ad (Qp (Qf [.str _,.str _,Iq _,_,Iq _]) (Qp Df ?_))
       refine Qp (A2 rfl rfl rfl (by unfold maxLen;(try simp only [List.length_append,List.length_cons,List.length_nil]);omega)) ?_
       refine Qp (Qf [.str _,Iq _,_,Iq _]) (Qp Df ?_)
       refine Qp (A2 rfl rfl rfl (by unfold maxLen;(try simp only [List.length_append,List.length_cons,List.length_nil]);omega)) ?_
       refine Qp Db (Aa (Cx (Ao (Ai ?_))))
       refine Qr (.str _) ?_
       rw [e]
       try rfl
      ·
       have hp:=dP hc7
       refine (aX hp).elim fun x0 h0=>?_
       have hw0:=kids (by omega) x0 (List.mem_of_getElem? h0)
       have hw2:=hw0.2
       have e:=xP hk h0
       refine Bl (AW.seq ?_)
       refine AW.draw mixed (fun _=>True) trivial (by kernel_rfl) ?_
       refine Qn 0 rfl (Qf [.str _,.str _,Iq _,_,Iq _]) (Qn 1 rfl Df ?_)
       refine Qn 2 rfl (A2 rfl rfl rfl (by unfold maxLen;(try simp only [List.length_append,List.length_cons,List.length_nil]);omega)) ?_
       refine Qn 3 rfl (Qf [.str _,Iq _,_,Iq _]) (Qn 4 rfl Df ?_)
       refine Qn 5 rfl (A2 rfl rfl rfl (by unfold maxLen;(try simp only [List.length_append,List.length_cons,List.length_nil]);omega)) ?_
       refine Qn 6 rfl (A2 rfl rfl rfl (by unfold maxLen;(try simp only [List.length_append,List.length_cons,List.length_nil]);omega)) ?_
       refine Qn 7 rfl (Qf [_,Iq _]) (Qn 8 rfl Dg ?_)
       refine Qn 9 rfl (Ag (c:=[Iq _,.str _,.str _,Iq _,_,Iq _]) tok rfl rfl rfl rfl rfl rfl (by decide) (B6 h0)) ?_
       refine Qn 10 rfl (B2 [Iq _,.str _,.str _,Iq _,_,Iq _]) ?_
       refine Qn 11 rfl (Qc rfl (hw0.1)) ?_
       refine Qn 12 rfl (A2 rfl rfl rfl (by unfold maxLen;(try simp only [List.length_append,List.length_cons,List.length_nil]);omega)) ?_
       refine Qn 13 rfl Db ?_
       refine Hs.done _ _ (by kernel_rfl) ?_
       refine Af (AW.ret (Ao (Ai ?_)))
       refine Qr (.str _) ?_
       rw [e]
       try rfl
     ·
      refine Ad (Qp Av (Qp A3 (Aa (Au (fun hc8=>?_) fun hc8=>?_))))
      ·
       have hk:=Jk hc8
       unfold Dr at hs
       rw [hk] at hs
       replace hs:((t.kids.length:Int)==1)=true:=hs
       refine (Tx (t:=t) (Jk hs)).elim fun x0 hq=>?_
       have h0:t.kids[0]? = some x0:=by rw [hq];rfl
       have hw0:=kids (by omega) x0 (List.mem_of_getElem? h0)
       have hw2:=hw0.2
       have e:=iW hk hq
       refine AW.seq ?_
       refine AW.draw mixed (fun _=>True) trivial (by kernel_rfl) ?_
       refine Qn 0 rfl (Qf [_,Iq _]) (Qn 1 rfl Dg ?_)
       refine Qn 2 rfl (Ag (c:=[Iq _,.str _,.str _,Iq _,_,Iq _]) tok rfl rfl rfl rfl rfl rfl (by decide) (B6 h0)) ?_
       refine Qn 3 rfl (B2 [Iq _,.str _,.str _,Iq _,_,Iq _]) ?_
       refine Qn 4 rfl (Qc rfl (hw0.1)) ?_
       refine Qn 5 rfl (A2 rfl rfl rfl (by unfold maxLen;(try simp only [List.length_append,List.length_cons,List.length_nil]);omega)) ?_
       refine Qn 6 rfl (A2 rfl rfl rfl (by unfold maxLen;(try simp only [List.length_append,List.length_cons,List.length_nil]);omega)) ?_
       refine Qn 7 rfl (Qf [Iq _,_,Iq _]) (Qn 8 rfl Bt ?_)
       refine Qn 9 rfl (Qc rfl (Wg t.num hi)) ?_
       refine Qn 10 rfl (A2 rfl rfl rfl (by unfold maxLen;(try simp only [List.length_append,List.length_cons,List.length_nil]);omega)) ?_
       refine Qn 11 rfl (A2 rfl rfl rfl (by unfold maxLen;(try simp only [List.length_append,List.length_cons,List.length_nil]);omega)) ?_
       refine Qn 12 rfl Db ?_
       refine Hs.done _ _ (by kernel_rfl) ?_
       refine Af (AW.ret (Ao (Ai ?_)))
       refine Qr (.str _) ?_
       rw [e]
       try rfl
      ·
       refine Ad (Qp Av (Qp A3 (Aa (Au (fun hc9=>?_) fun hc9=>?_))))
       ·
        have hk:=Jk hc9
        have e:=oS hk
        have hnames:=Wl hfl hk
        refine Ad (Qp (B2 [Iq _,.str _,.str _,Iq _,_,Iq _]) ?_)
        refine Qp (Qc rfl (V6 t hi (by omega) hnames)) ?_
        refine Qp Db (Aa (AW.ret (Ao (Ai ?_))))
        refine Qr (.str _) ?_
        rw [e]
        try rfl
       ·
        refine Ad (Qp Av (Qp A3 (Aa (Au (fun hc10=>?_) fun hc10=>?_))))
        ·
         have hk:=Jk hc10
         have e:Ah t=t.text ++ [46]++t.name:=by rw [Cn];unfold Cp;rw [hk];rfl
         refine Ad (Qp (Qf [.str _,.str _,Iq _,_,Iq _]) (Qp Df ?_))
         refine Qp (A2 rfl rfl rfl (by unfold maxLen;(try simp only [List.length_append,List.length_cons,List.length_nil]);omega)) ?_
         refine Qp (Qf [.str _,Iq _,_,Iq _]) (Qp Df ?_)
         refine Qp (A2 rfl rfl rfl (by unfold maxLen;(try simp only [List.length_append,List.length_cons,List.length_nil]);omega)) ?_
         refine Qp Db (Aa (AW.ret (Ao (Ai ?_))))
         refine Qr (.str _) ?_
         rw [e]
         try rfl
        ·
         refine Ad (Qp Av (Qp A3 (Aa (Au (fun hc11=>?_) fun hc11=>?_))))
         ·
          have hk:=Jk hc11
          have e:Ah t = [99,111,117,110,116,40]++t.text ++ [41]:=by rw [Cn];unfold Cp;rw [hk];rfl
          refine Ad (Qp (Qf [.str _,.str _,Iq _,_,Iq _]) (Qp Df ?_))
          refine Qp (A2 rfl rfl rfl (by unfold maxLen;(try simp only [List.length_append,List.length_cons,List.length_nil]);omega)) ?_
          refine Qp (A2 rfl rfl rfl (by unfold maxLen;(try simp only [List.length_append,List.length_cons,List.length_nil]);omega)) ?_
          refine Qp Db (Aa (AW.ret (Ao (Ai ?_))))
          refine Qr (.str _) ?_
          rw [e]
          try rfl
         ·
          refine Ad (Qp Av (Qp A3 (Aa (Au (fun hc12=>?_) fun hc12=>?_))))
          ·
           have hk:=Jk hc12
           refine AW.seq ?_
           refine AW.draw mixed (fun _=>True) trivial (by kernel_rfl) ?_
           refine Qn 0 rfl (Qf [Iq _,_,Iq _]) (Qn 1 rfl Bt ?_)
           refine Qn 2 rfl (Qc rfl (aS t.num)) ?_
           refine Qn 3 rfl (A2 rfl rfl rfl (by unfold maxLen;(try simp only [List.length_append,List.length_cons,List.length_nil]);omega)) ?_
           refine Qn 4 rfl (Qf [.str _,.str _,Iq _,_,Iq _]) (Qn 5 rfl Df ?_)
           refine Qn 6 rfl (A2 rfl rfl rfl (by unfold maxLen;(try simp only [List.length_append,List.length_cons,List.length_nil]);omega)) ?_
           refine Qn 7 rfl (A2 rfl rfl rfl (by unfold maxLen;(try simp only [List.length_append,List.length_cons,List.length_nil]);omega)) ?_
           refine Qn 8 rfl (Qf [.str _,Iq _,_,Iq _]) (Qn 9 rfl Df ?_)
           refine Qn 10 rfl (A2 rfl rfl rfl (by unfold maxLen;(try simp only [List.length_append,List.length_cons,List.length_nil]);omega)) ?_
           refine Qn 11 rfl Db ?_
           refine Hs.done _ _ (by kernel_rfl) ?_
           refine Af (AW.seq (Ad (Qp (Qf [_,Iq _]) (Qp Dg ?_))))
           refine Qp (Ax (n:=t.kids.length) tok rfl rfl rfl (by simp)) ?_
           refine Qp D2 (Aa (Au (fun hc13=>?_) fun hc13=>?_))
           ·
            have hp:0<t.kids.length:=by have:=of_decide_eq_true hc13;omega
            refine (aX hp).elim fun x0 h0=>?_
            have hw0:=kids (by omega) x0 (List.mem_of_getElem? h0)
            have hw2:=hw0.2
            have hk0:=H1 h h0
            have hk13:x0.kind=13:=Ie (n:=13) (by have e0:Ee t 0 = .only 13:=by { unfold Ee;rw [hk];rfl };have:=hk0.2;rwa [e0] at this)
            have hfx:=(Hi (Hm hk0.1).1).2.2.2
            have hnames:=Wl hfx hk13
            have e:=tC hk h0
            have e2:=oS hk13
            have hix:=Uk hk0.1
            have htx:=(Zw (Ia hf (List.mem_of_getElem? h0))).1
            rw [e2] at e hw2
            refine AW.region (Qp Dh (Qp (Qf [_,Iq _]) (Qp Dg ?_)))
            refine Qp (Ag (c:=[Iq _,.str _,.str _,Iq _,_,Iq _]) tok rfl rfl rfl rfl rfl rfl (by decide) (B6 h0)) ?_
            refine Qp (B2 [Iq _,.str _,.str _,Iq _,_,Iq _]) ?_
            refine Qp (Qc rfl (V6 x0 hix htx hnames)) ?_
            refine Qp (A2 rfl rfl rfl (by unfold maxLen;(try simp only [List.length_append,List.length_cons,List.length_nil]);omega)) ?_
            refine Qp (A2 rfl rfl rfl (by unfold maxLen;(try simp only [List.length_append,List.length_cons,List.length_nil]);omega)) ?_
            refine Qp Db (By (Qp Dh ?_))
            refine Qp (A2 rfl rfl rfl (by unfold maxLen;(try simp only [List.length_append,List.length_cons,List.length_nil]);omega)) ?_
            refine Qp Db (Aa (AW.ret (Ao (Ai ?_))))
            refine Qr (.str _) ?_
            rw [e]
            try rfl
           ·
            have hp:¬0<t.kids.length:=by have:=of_decide_eq_false hc13;omega
            have e:=rQ hk hp
            refine Bl (Ad (Qp Dh ?_))
            refine Qp (A2 rfl rfl rfl (by unfold maxLen;(try simp only [List.length_append,List.length_cons,List.length_nil]);omega)) ?_
            refine Qp Db (Aa (AW.ret (Ao (Ai ?_))))
            refine Qr (.str _) ?_
            rw [e]
            try rfl
          ·
           refine Ad (Qp Av (Qp A3 (Aa (Au (fun hc14=>?_) fun hc14=>?_))))
           ·
            have hk:=Jk hc14
            unfold Dr at hs
            rw [hk] at hs
            replace hs:((t.kids.length:Int)==2)=true:=hs
            refine (Y8 (t:=t) (Jk hs)).elim fun x0 hx1=>?_
            refine hx1.elim fun x1 hq=>?_
            have h0:t.kids[0]? = some x0:=by rw [hq];rfl
            have h1:t.kids[1]? = some x1:=by rw [hq];rfl
            have hw0:=kids (by omega) x0 (List.mem_of_getElem? h0)
            have hw1:=kids (by omega) x1 (List.mem_of_getElem? h1)
            have hl0:=Jd t x0 (Ah x0)
            have hl1:=Jd t x1 (Ah x1)
            have hw2:=hw0.2
            have hw3:=hw1.2
            have e:=yA hk hq
            refine AW.seq ?_
            refine AW.draw mixed (fun _=>True) trivial (by kernel_rfl) ?_
            refine Qn 0 rfl (B2 [Iq _,.str _,.str _,Iq _,_,Iq _]) (Qn 1 rfl (Qf [_,Iq _]) (Qn 2 rfl Dg ?_))
            refine Qn 3 rfl (Ag (c:=[Iq _,.str _,.str _,Iq _,_,Iq _]) tok rfl rfl rfl rfl rfl rfl (by decide) (B6 h0)) ?_
            refine Qn 4 rfl (B2 [Iq _,.str _,.str _,Iq _,_,Iq _]) ?_
            refine Qn 5 rfl (Qc rfl (Rj t x0 hw0)) ?_
            refine Qn 6 rfl (A2 rfl rfl rfl (by unfold maxLen;(try simp only [List.length_append,List.length_cons,List.length_nil]);omega)) ?_
            refine Qn 7 rfl (Qf [Iq _,_,Iq _]) (Qn 8 rfl Bt ?_)
            refine Qn 9 rfl (Qc rfl (bN t.num)) ?_
            refine Qn 10 rfl (A2 rfl rfl rfl (by unfold maxLen;(try simp only [List.length_append,List.length_cons,List.length_nil]);omega)) ?_
            refine Qn 11 rfl (A2 rfl rfl rfl (by unfold maxLen;(try simp only [List.length_append,List.length_cons,List.length_nil]);omega)) ?_
            refine Qn 12 rfl (B2 [Iq _,.str _,.str _,Iq _,_,Iq _]) (Qn 13 rfl (Qf [_,Iq _]) (Qn 14 rfl Dg ?_))
            refine Qn 15 rfl (Ag (c:=[Iq _,.str _,.str _,Iq _,_,Iq _]) tok rfl rfl rfl rfl rfl rfl (by decide) (B6 h1)) ?_
            refine Qn 16 rfl (B2 [Iq _,.str _,.str _,Iq _,_,Iq _]) ?_
            refine Qn 17 rfl (Qc rfl (Rj t x1 hw1)) ?_
            refine Qn 18 rfl (A2 rfl rfl rfl (by unfold maxLen;(try simp only [List.length_append,List.length_cons,List.length_nil]);omega)) ?_
            refine Qn 19 rfl Db ?_
            refine Hs.done _ _ (by kernel_rfl) ?_
            refine Af (AW.ret (Ao (Ai ?_)))
            refine Qr (.str _) ?_
            rw [e]
            try rfl
           ·
            refine Ad (Qp Av (Qp A3 (Aa (Au (fun hc15=>?_) fun hc15=>?_))))
            ·
             have hk:=Jk hc15
             unfold Dr at hs
             rw [hk] at hs
             replace hs:((t.kids.length:Int)==1)=true:=hs
             refine (Tx (t:=t) (Jk hs)).elim fun x0 hq=>?_
             have h0:t.kids[0]? = some x0:=by rw [hq];rfl
             have hw0:=kids (by omega) x0 (List.mem_of_getElem? h0)
             have hl0:=Jd t x0 (Ah x0)
             have hw2:=hw0.2
             have e:=zR hk hq
             refine AW.seq ?_
             refine AW.draw mixed (fun _=>True) trivial (by kernel_rfl) ?_
             refine Qn 0 rfl (B2 [Iq _,.str _,.str _,Iq _,_,Iq _]) (Qn 1 rfl (Qf [_,Iq _]) (Qn 2 rfl Dg ?_))
             refine Qn 3 rfl (Ag (c:=[Iq _,.str _,.str _,Iq _,_,Iq _]) tok rfl rfl rfl rfl rfl rfl (by decide) (B6 h0)) ?_
             refine Qn 4 rfl (B2 [Iq _,.str _,.str _,Iq _,_,Iq _]) ?_
             refine Qn 5 rfl (Qc rfl (Rj t x0 hw0)) ?_
             refine Qn 6 rfl (A2 rfl rfl rfl (by unfold maxLen;(try simp only [List.length_append,List.length_cons,List.length_nil]);omega)) ?_
             refine Qn 7 rfl Db ?_
             refine Hs.done _ _ (by kernel_rfl) ?_
             refine Af (AW.ret (Ao (Ai ?_)))
             refine Qr (.str _) ?_
             rw [e]
             try rfl
            ·
             have e:=tL k0 k18 ⟨Ku hc1,Ku hc3,Ku hc4,Ku hc5,Ku hc6,Ku hc8,Ku hc9,Ku hc10,Ku hc11,Ku hc12,Ku hc14,Ku hc15⟩
             have hb2:=hbig
             rw [e] at hb2
             simp only [List.length_append,List.length_cons,List.length_nil] at hb2
             have hn5:=Ku hc5
             refine AW.skip (Bc (Af (AW.seq ?_)))
             refine AW.draw mixed (fun _=>True) trivial (by kernel_rfl) ?_
             refine Qn 0 rfl (Qf [Iq _,.str _,.str _,Iq _,_,Iq _]) (Qn 1 rfl Bt ?_)
             refine Qn 2 rfl (Qc rfl (gH t.kind)) ?_
             refine Qn 3 rfl (A2 rfl rfl rfl (by unfold maxLen;(try simp only [List.length_append,List.length_cons,List.length_nil]);omega)) ?_
             refine Qn 4 rfl (B2 [Iq _,.str _,.str _,Iq _,_,Iq _]) ?_
             refine Qn 5 rfl (Qc rfl (eY t (by omega) (kids hn5) (by omega))) ?_
             refine Qn 6 rfl (A2 rfl rfl rfl (by unfold maxLen;(try simp only [List.length_append,List.length_cons,List.length_nil]);omega)) ?_
             refine Qn 7 rfl (A2 rfl rfl rfl (by unfold maxLen;(try simp only [List.length_append,List.length_cons,List.length_nil]);omega)) ?_
             refine Qn 8 rfl Db ?_
             refine Hs.done _ _ (by kernel_rfl) ?_
             refine Af (AW.ret ?_)
             refine Qr (.str _) ?_
             rw [e]
             try rfl
theorem fW (t:Syn)(p:Pl)(hfew:Fl t=true)(hp:p.fine)(ho:p.ok):Ap Tryz.prog 104 [.agg (cSyn t),.int .i64 p.role] (.tuple [.str (Bo t p).1,.int .i64 (Bo t p).2]):=by
 refine Ap.body (n:=23) tok Tryz.func104 rfl rfl rfl fun H=>?_
 refine Ad (Qp (Eu [Iq _,.str _,.str _,Iq _,_,Iq _]) (Qp Db (Qp A0 (Aa (AW.seq (Ad (Qp (B2 [Iq _,.str _,.str _,Iq _,_,Iq _]) (Qp A4 ?_))))))))
 refine Qp (Qc rfl (sA t p ho hfew)) ?_
 refine Qp A0 (By (Qp A4 (Qp B9 (Aa (Au (fun hc1=>?_) fun hc1=>?_)))))
 ·
  refine Ad (Qp A4 (Qp Db (Qp A0 (Aa (Cx ?_)))))
  refine L1 (.str _) (Iq _) ?_
  have h9:Bo t p=([],Bg t p):=if_pos hc1
  rw [h9];rfl
 ·
  have h0:Bg t p=0:=by simpa using hc1
  have hkd:=hp _ (Hi (Hm h0).1).1
  have hwl:=Rk h0 hfew
  refine Bl (AW.seq (Ad (Qp (B2 [Iq _,.str _,.str _,Iq _,_,Iq _]) ?_)))
  refine Qp (Qc rfl (gG t hfew)) ?_
  refine Qp D2 (Aa (Au (fun hc2=>?_) fun hc2=>?_))
  ·
   refine Ad (Qp Db (Qp A0 (Aa (Cx ?_))))
   refine L1 (.str _) (Iq _) ?_
   have h9:Bo t p=([],12):=(Bu hc1).trans (if_pos hc2)
   rw [h9];rfl
  ·
   refine Bl (Ad (Qp (B2 [Iq _,.str _,.str _,Iq _,_,Iq _]) ?_))
   refine Qp (Qc rfl (uO t p h0 hfew hkd.1 hkd.2.1 hkd.2.2)) ?_
   refine Qp Db (Aa (AW.seq (Ad (Qp Dh ?_))))
   refine Qp (Bx tok rfl rfl rfl rfl) ?_
   refine Qp D2 (Aa (Au (fun hc3=>?_) fun hc3=>?_))
   ·
    refine Ad (Qp Db (Qp A0 (Aa (Cx ?_))))
    refine L1 (.str _) (Iq _) ?_
    have h9:Bo t p=([],13):=((Bu hc1).trans (Bu hc2)).trans (if_pos hc3)
    rw [h9];rfl
   ·
    refine Bl (Ad (Qp Dh (Qp Db (Qp A0 (Aa (AW.ret ?_))))))
    refine L1 (.str _) (Iq _) ?_
    have h9:Bo t p=(Ah t,0):=((Bu hc1).trans (Bu hc2)).trans (Bu hc3)
    rw [h9];rfl
theorem pT (t:Syn)(hfew:Fl t=true):Ap Tryz.prog 60 [.agg (cSyn t)] (.int .i64 (Bo t (.only 0)).2):=by
 refine Ap.body (n:=11) tok Tryz.func60 rfl rfl rfl fun H=>?_
 refine Ad (Qp (Eu [Iq _,.str _,.str _,Iq _,_,Iq _]) (Qp A0 (By (Qp (B2 [Iq _,.str _,.str _,Iq _,_,Iq _]) ?_))))
 refine Qp (Qc rfl (fW t (.only 0) hfew Pa (.inl rfl))) ?_
 refine Qp L0 (Qp pP (Qp Jw (Qp Db (Qp A0 (By (Qp A4 (Qp A0 (Aa (AW.ret ?_)))))))))
 refine Qr (Iq _) ?_
 rfl

end Go.Proofs.YtckhoadldibflaaGreatDoor
