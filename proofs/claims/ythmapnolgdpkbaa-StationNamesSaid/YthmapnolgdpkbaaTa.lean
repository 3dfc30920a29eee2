/-
  StationNames: what its parts compute. No condition.
-/
import Derived.Test.YthmapnolgdpkbaaZSn
import Derived.Test.YthmapnolgdpkbaaSr
namespace Go.Proofs.Ythmapnolgdpkbaa.st
open Go.RowKit Go.Eb

noncomputable def o9 (okn : List AV → Bool) (nm : List AV → List ByteArray) : Orc := Orc.cons 21 (ansG okn fun x => .c (.d (busesD (nm x)))) Orc.nil
noncomputable def ann9 : Ann := annOf []
theorem b9 : Try.f9.body = some (bodyOf Try.f9) := by kernel_rfl
set_option maxRecDepth 100000 in
theorem ev9 (okn : List AV → Bool) (nm : List AV → List ByteArray) (s : SSta) (g : Nat) : callA Try.prog (o9 okn nm) ann9 g Try.f9 (bodyOf Try.f9) [aSta s] [] =
  (bif okn
  [AV.agg (List.map C.d (staC s)), AV.c (C.d (D.v (Value.int IntKind.i64 (↑(List.length (SSta.buses s)) : Int)))),
    AV.c (C.d (D.v (Value.int IntKind.i64 (↑(List.length (SSta.lines s)) : Int)))),
    AV.c (C.d (D.v (Value.int IntKind.i64 (↑(List.length (SSta.srcs s)) : Int)))),
    AV.c (C.d (D.v (Value.int IntKind.i64 (↑(List.length (SSta.bays s)) : Int))))]
  then some (T.leaf
  (AV.c
      (C.d
        (listD ((1 : Nat)) busC e0
          (nm
            [AV.agg (List.map C.d (staC s)),
              AV.c (C.d (D.v (Value.int IntKind.i64 (↑(List.length (SSta.buses s)) : Int)))),
              AV.c (C.d (D.v (Value.int IntKind.i64 (↑(List.length (SSta.lines s)) : Int)))),
              AV.c (C.d (D.v (Value.int IntKind.i64 (↑(List.length (SSta.srcs s)) : Int)))),
              AV.c (C.d (D.v (Value.int IntKind.i64 (↑(List.length (SSta.bays s)) : Int))))]))),
    []))
  else none) := by kernel_rfl
noncomputable def ann10 : Ann := annOf []
theorem b10 : Try.f10.body = some (bodyOf Try.f10) := by kernel_rfl
set_option maxRecDepth 100000 in
theorem ev10 (n q : Int) (g : Nat) : callA Try.prog Orc.nil ann10 g Try.f10 (bodyOf Try.f10) [vI n, vI q] [] =
  (bif !q == (0 : Int)
  then (bif decide (Int.tmod n q < (0 : Int))
    then some (T.leaf (AV.c (C.d (D.v (Value.int IntKind.i64 (IntKind.wrap IntKind.i64 (Int.tmod n q + q))))), []))
    else some (T.leaf (AV.c (C.d (D.v (Value.int IntKind.i64 (Int.tmod n q)))), [])))
  else none) := by kernel_rfl
noncomputable def ann11 : Ann := annOf []
theorem b11 : Try.f11.body = some (bodyOf Try.f11) := by kernel_rfl
set_option maxRecDepth 100000 in
theorem ev11 (s : SSta) (p : Int) (nw : ByteArray) (g : Nat) : callA Try.prog Orc.nil ann11 g Try.f11 (bodyOf Try.f11) [aSta s, vI p, vS nw] [] =
  (bif decide (((0 : Nat) + List.length (SSta.buses s)) * (16 : Nat) ≤ (140737488355328 : Nat)) &&
  decide ((0 : Nat) + List.length (SSta.buses s) ≤ (9223372036854775807 : Nat))
  then (bif decide (((0 : Nat) + List.length (SSta.lines s)) * (48 : Nat) ≤ (140737488355328 : Nat)) &&
  decide ((0 : Nat) + List.length (SSta.lines s) ≤ (9223372036854775807 : Nat))
    then (bif decide (((0 : Nat) + List.length (SSta.srcs s)) * (56 : Nat) ≤ (140737488355328 : Nat)) &&
  decide ((0 : Nat) + List.length (SSta.srcs s) ≤ (9223372036854775807 : Nat))
      then (bif decide (((0 : Nat) + List.length (SSta.bays s)) * (120 : Nat) ≤ (140737488355328 : Nat)) &&
  decide ((0 : Nat) + List.length (SSta.bays s) ≤ (9223372036854775807 : Nat))
        then (bif decide (p < (↑((0 : Nat) + List.length (SSta.buses s)) : Int))
          then (bif decide ((0 : Int) ≤ p) && decide (p < (↑((0 : Nat) + List.length (SSta.buses s)) : Int))
            then some (T.leaf
  (AV.agg
      [C.d (D.v (Value.string (SSta.name s))), C.row ((0 : Nat)) ((1 : Nat)) ((0 : Nat) + List.length (SSta.buses s)),
        C.row ((1 : Nat)) ((5 : Nat)) ((0 : Nat) + List.length (SSta.lines s)),
        C.row ((2 : Nat)) ((6 : Nat)) ((0 : Nat) + List.length (SSta.srcs s)),
        C.row ((3 : Nat)) ((12 : Nat)) ((0 : Nat) + List.length (SSta.bays s))],
    [((0 : Nat),
        Blk.row ((0 : Nat) + List.length (SSta.buses s))
          (fun j =>
            bif Nat.beq j (Int.toNat p) then
              splice
                (appF (0 : Nat) (chunk [] ((0 : Nat) + (1 : Nat))) (fun i => busC (List.getD (SSta.buses s) i e0)) j)
                (0 : Nat) [D.v (Value.string nw)]
            else appF (0 : Nat) (chunk [] ((0 : Nat) + (1 : Nat))) (fun i => busC (List.getD (SSta.buses s) i e0)) j)
          ((1 : Nat)) ((9 : Nat))),
      ((1 : Nat),
        Blk.row ((0 : Nat) + List.length (SSta.lines s))
          (appF (0 : Nat) (chunk [] ((4 : Nat) + (1 : Nat))) fun i => lineC (List.getD (SSta.lines s) i line0))
          ((5 : Nat)) ((58 : Nat))),
      ((2 : Nat),
        Blk.row ((0 : Nat) + List.length (SSta.srcs s))
          (appF (0 : Nat) (chunk [] ((5 : Nat) + (1 : Nat))) fun i => srcC' (List.getD (SSta.srcs s) i src0))
          ((6 : Nat)) ((61 : Nat))),
      ((3 : Nat),
        Blk.row ((0 : Nat) + List.length (SSta.bays s))
          (appF (0 : Nat) (chunk [] ((11 : Nat) + (1 : Nat))) fun i => bayC (List.getD (SSta.bays s) i bay0))
          ((12 : Nat)) ((54 : Nat)))]))
            else none)
          else (bif decide
  (p <
    IntKind.wrap IntKind.i64
      ((↑((0 : Nat) + List.length (SSta.buses s)) : Int) + (↑((0 : Nat) + List.length (SSta.lines s)) : Int)))
            then (bif decide
    ((0 : Int) ≤ IntKind.wrap IntKind.i64 (p - (↑((0 : Nat) + List.length (SSta.buses s)) : Int))) &&
  decide
    (IntKind.wrap IntKind.i64 (p - (↑((0 : Nat) + List.length (SSta.buses s)) : Int)) <
      (↑((0 : Nat) + List.length (SSta.lines s)) : Int))
              then some (T.leaf
  (AV.agg
      [C.d (D.v (Value.string (SSta.name s))), C.row ((0 : Nat)) ((1 : Nat)) ((0 : Nat) + List.length (SSta.buses s)),
        C.row ((1 : Nat)) ((5 : Nat)) ((0 : Nat) + List.length (SSta.lines s)),
        C.row ((2 : Nat)) ((6 : Nat)) ((0 : Nat) + List.length (SSta.srcs s)),
        C.row ((3 : Nat)) ((12 : Nat)) ((0 : Nat) + List.length (SSta.bays s))],
    [((0 : Nat),
        Blk.row ((0 : Nat) + List.length (SSta.buses s))
          (appF (0 : Nat) (chunk [] ((0 : Nat) + (1 : Nat))) fun i => busC (List.getD (SSta.buses s) i e0)) ((1 : Nat))
          ((9 : Nat))),
      ((1 : Nat),
        Blk.row ((0 : Nat) + List.length (SSta.lines s))
          (fun j =>
            bif
                Nat.beq j
                  (Int.toNat (IntKind.wrap IntKind.i64 (p - (↑((0 : Nat) + List.length (SSta.buses s)) : Int)))) then
              splice
                (appF (0 : Nat) (chunk [] ((4 : Nat) + (1 : Nat))) (fun i => lineC (List.getD (SSta.lines s) i line0))
                  j)
                ((0 : Nat) + (0 : Nat)) [D.v (Value.string nw)]
            else
              appF (0 : Nat) (chunk [] ((4 : Nat) + (1 : Nat))) (fun i => lineC (List.getD (SSta.lines s) i line0)) j)
          ((5 : Nat)) ((58 : Nat))),
      ((2 : Nat),
        Blk.row ((0 : Nat) + List.length (SSta.srcs s))
          (appF (0 : Nat) (chunk [] ((5 : Nat) + (1 : Nat))) fun i => srcC' (List.getD (SSta.srcs s) i src0))
          ((6 : Nat)) ((61 : Nat))),
      ((3 : Nat),
        Blk.row ((0 : Nat) + List.length (SSta.bays s))
          (appF (0 : Nat) (chunk [] ((11 : Nat) + (1 : Nat))) fun i => bayC (List.getD (SSta.bays s) i bay0))
          ((12 : Nat)) ((54 : Nat)))]))
              else none)
            else (bif decide
  (p <
    IntKind.wrap IntKind.i64
      (IntKind.wrap IntKind.i64
          ((↑((0 : Nat) + List.length (SSta.buses s)) : Int) + (↑((0 : Nat) + List.length (SSta.lines s)) : Int)) +
        (↑((0 : Nat) + List.length (SSta.srcs s)) : Int)))
              then (bif decide
    ((0 : Int) ≤
      IntKind.wrap IntKind.i64
        (IntKind.wrap IntKind.i64 (p - (↑((0 : Nat) + List.length (SSta.buses s)) : Int)) -
          (↑((0 : Nat) + List.length (SSta.lines s)) : Int))) &&
  decide
    (IntKind.wrap IntKind.i64
        (IntKind.wrap IntKind.i64 (p - (↑((0 : Nat) + List.length (SSta.buses s)) : Int)) -
          (↑((0 : Nat) + List.length (SSta.lines s)) : Int)) <
      (↑((0 : Nat) + List.length (SSta.srcs s)) : Int))
                then some (T.leaf
  (AV.agg
      [C.d (D.v (Value.string (SSta.name s))), C.row ((0 : Nat)) ((1 : Nat)) ((0 : Nat) + List.length (SSta.buses s)),
        C.row ((1 : Nat)) ((5 : Nat)) ((0 : Nat) + List.length (SSta.lines s)),
        C.row ((2 : Nat)) ((6 : Nat)) ((0 : Nat) + List.length (SSta.srcs s)),
        C.row ((3 : Nat)) ((12 : Nat)) ((0 : Nat) + List.length (SSta.bays s))],
    [((0 : Nat),
        Blk.row ((0 : Nat) + List.length (SSta.buses s))
          (appF (0 : Nat) (chunk [] ((0 : Nat) + (1 : Nat))) fun i => busC (List.getD (SSta.buses s) i e0)) ((1 : Nat))
          ((9 : Nat))),
      ((1 : Nat),
        Blk.row ((0 : Nat) + List.length (SSta.lines s))
          (appF (0 : Nat) (chunk [] ((4 : Nat) + (1 : Nat))) fun i => lineC (List.getD (SSta.lines s) i line0))
          ((5 : Nat)) ((58 : Nat))),
      ((2 : Nat),
        Blk.row ((0 : Nat) + List.length (SSta.srcs s))
          (fun j =>
            bif
                Nat.beq j
                  (Int.toNat
                    (IntKind.wrap IntKind.i64
                      (IntKind.wrap IntKind.i64 (p - (↑((0 : Nat) + List.length (SSta.buses s)) : Int)) -
                        (↑((0 : Nat) + List.length (SSta.lines s)) : Int)))) then
              splice
                (appF (0 : Nat) (chunk [] ((5 : Nat) + (1 : Nat))) (fun i => srcC' (List.getD (SSta.srcs s) i src0)) j)
                ((0 : Nat) + (0 : Nat)) [D.v (Value.string nw)]
            else appF (0 : Nat) (chunk [] ((5 : Nat) + (1 : Nat))) (fun i => srcC' (List.getD (SSta.srcs s) i src0)) j)
          ((6 : Nat)) ((61 : Nat))),
      ((3 : Nat),
        Blk.row ((0 : Nat) + List.length (SSta.bays s))
          (appF (0 : Nat) (chunk [] ((11 : Nat) + (1 : Nat))) fun i => bayC (List.getD (SSta.bays s) i bay0))
          ((12 : Nat)) ((54 : Nat)))]))
                else none)
              else (bif decide
    ((0 : Int) ≤
      IntKind.wrap IntKind.i64
        (IntKind.wrap IntKind.i64
            (IntKind.wrap IntKind.i64 (p - (↑((0 : Nat) + List.length (SSta.buses s)) : Int)) -
              (↑((0 : Nat) + List.length (SSta.lines s)) : Int)) -
          (↑((0 : Nat) + List.length (SSta.srcs s)) : Int))) &&
  decide
    (IntKind.wrap IntKind.i64
        (IntKind.wrap IntKind.i64
            (IntKind.wrap IntKind.i64 (p - (↑((0 : Nat) + List.length (SSta.buses s)) : Int)) -
              (↑((0 : Nat) + List.length (SSta.lines s)) : Int)) -
          (↑((0 : Nat) + List.length (SSta.srcs s)) : Int)) <
      (↑((0 : Nat) + List.length (SSta.bays s)) : Int))
                then some (T.leaf
  (AV.agg
      [C.d (D.v (Value.string (SSta.name s))), C.row ((0 : Nat)) ((1 : Nat)) ((0 : Nat) + List.length (SSta.buses s)),
        C.row ((1 : Nat)) ((5 : Nat)) ((0 : Nat) + List.length (SSta.lines s)),
        C.row ((2 : Nat)) ((6 : Nat)) ((0 : Nat) + List.length (SSta.srcs s)),
        C.row ((3 : Nat)) ((12 : Nat)) ((0 : Nat) + List.length (SSta.bays s))],
    [((0 : Nat),
        Blk.row ((0 : Nat) + List.length (SSta.buses s))
          (appF (0 : Nat) (chunk [] ((0 : Nat) + (1 : Nat))) fun i => busC (List.getD (SSta.buses s) i e0)) ((1 : Nat))
          ((9 : Nat))),
      ((1 : Nat),
        Blk.row ((0 : Nat) + List.length (SSta.lines s))
          (appF (0 : Nat) (chunk [] ((4 : Nat) + (1 : Nat))) fun i => lineC (List.getD (SSta.lines s) i line0))
          ((5 : Nat)) ((58 : Nat))),
      ((2 : Nat),
        Blk.row ((0 : Nat) + List.length (SSta.srcs s))
          (appF (0 : Nat) (chunk [] ((5 : Nat) + (1 : Nat))) fun i => srcC' (List.getD (SSta.srcs s) i src0))
          ((6 : Nat)) ((61 : Nat))),
      ((3 : Nat),
        Blk.row ((0 : Nat) + List.length (SSta.bays s))
          (fun j =>
            bif
                Nat.beq j
                  (Int.toNat
                    (IntKind.wrap IntKind.i64
                      (IntKind.wrap IntKind.i64
                          (IntKind.wrap IntKind.i64 (p - (↑((0 : Nat) + List.length (SSta.buses s)) : Int)) -
                            (↑((0 : Nat) + List.length (SSta.lines s)) : Int)) -
                        (↑((0 : Nat) + List.length (SSta.srcs s)) : Int)))) then
              splice
                (appF (0 : Nat) (chunk [] ((11 : Nat) + (1 : Nat))) (fun i => bayC (List.getD (SSta.bays s) i bay0)) j)
                ((0 : Nat) + (0 : Nat)) [D.v (Value.string nw)]
            else appF (0 : Nat) (chunk [] ((11 : Nat) + (1 : Nat))) (fun i => bayC (List.getD (SSta.bays s) i bay0)) j)
          ((12 : Nat)) ((54 : Nat)))]))
                else none))))
        else none)
      else none)
    else none)
  else none) := by kernel_rfl
noncomputable def o3 (okl lg okc : List AV → Bool) (ck : List AV → Int) (okn : List AV → Bool) (nm : List AV → List ByteArray) (okw : List AV → Bool) (wi : List AV → Int) (okr : List AV → Bool) (rn : List AV → SSta) : Orc := oL okl lg (Orc.cons 8 (ansG okc fun x => vI (ck x)) (Orc.cons 12 (ansG okc fun x => vI (ck x))
  (Orc.cons 9 (ansG okn fun x => .c (.d (busesD (nm x)))) (Orc.cons 10 (ansG okw fun x => vI (wi x)) (Orc.cons 11 (ansG okr fun x => aSta (rn x)) Orc.nil)))))
noncomputable def ann3 : Ann := annOf []
theorem b3 : Try.f3.body = some (bodyOf Try.f3) := by kernel_rfl
set_option maxRecDepth 100000 in
theorem ev3 (okl lg okc : List AV → Bool) (ck : List AV → Int) (okn : List AV → Bool) (nm : List AV → List ByteArray) (okw : List AV → Bool) (wi : List AV → Int) (okr : List AV → Bool) (rn : List AV → SSta) (s : SSta) (p q : Int) (g : Nat) : callA Try.prog (o3 okl lg okc ck okn nm okw wi okr rn) ann3 g Try.f3 (bodyOf Try.f3) [aSta s, vI p, vI q] [] =
  (bif okl [AV.agg (List.map C.d (staC s))]
  then (bif lg [AV.agg (List.map C.d (staC s))]
    then some (T.leaf (AV.c (C.d (D.v (Value.bool true))), []))
    else (bif okc [AV.agg (List.map C.d (staC s))]
      then (bif ck [AV.agg (List.map C.d (staC s))] != (0 : Int)
        then some (T.leaf (AV.c (C.d (D.v (Value.bool true))), []))
        else (bif okn [AV.agg (List.map C.d (staC s))]
          then (bif okw
  [AV.c (C.d (D.v (Value.int IntKind.i64 p))),
    AV.c (C.d (D.v (Value.int IntKind.i64 (↑(List.length (nm [AV.agg (List.map C.d (staC s))])) : Int))))]
            then (bif okw
  [AV.c (C.d (D.v (Value.int IntKind.i64 q))),
    AV.c (C.d (D.v (Value.int IntKind.i64 (↑(List.length (nm [AV.agg (List.map C.d (staC s))])) : Int))))]
              then (bif decide
    ((0 : Int) ≤
      wi
        [AV.c (C.d (D.v (Value.int IntKind.i64 q))),
          AV.c (C.d (D.v (Value.int IntKind.i64 (↑(List.length (nm [AV.agg (List.map C.d (staC s))])) : Int))))]) &&
  decide
    (wi
        [AV.c (C.d (D.v (Value.int IntKind.i64 q))),
          AV.c (C.d (D.v (Value.int IntKind.i64 (↑(List.length (nm [AV.agg (List.map C.d (staC s))])) : Int))))] <
      (↑(List.length (nm [AV.agg (List.map C.d (staC s))])) : Int))
                then (bif okr
  [AV.agg (List.map C.d (staC s)),
    AV.c
      (C.d
        (D.v
          (Value.int IntKind.i64
            (wi
              [AV.c (C.d (D.v (Value.int IntKind.i64 p))),
                AV.c
                  (C.d (D.v (Value.int IntKind.i64 (↑(List.length (nm [AV.agg (List.map C.d (staC s))])) : Int))))])))),
    AV.c
      (C.d
        (D.v
          (Value.string
            (List.getD (nm [AV.agg (List.map C.d (staC s))])
              (Int.toNat
                (wi
                  [AV.c (C.d (D.v (Value.int IntKind.i64 q))),
                    AV.c
                      (C.d
                        (D.v (Value.int IntKind.i64 (↑(List.length (nm [AV.agg (List.map C.d (staC s))])) : Int))))]))
              e0))))]
                  then (bif wi
    [AV.c (C.d (D.v (Value.int IntKind.i64 p))),
      AV.c (C.d (D.v (Value.int IntKind.i64 (↑(List.length (nm [AV.agg (List.map C.d (staC s))])) : Int))))] ==
  wi
    [AV.c (C.d (D.v (Value.int IntKind.i64 q))),
      AV.c (C.d (D.v (Value.int IntKind.i64 (↑(List.length (nm [AV.agg (List.map C.d (staC s))])) : Int))))]
                    then (bif okc
  [AV.agg
      (List.map C.d
        (staC
          (rn
            [AV.agg (List.map C.d (staC s)),
              AV.c
                (C.d
                  (D.v
                    (Value.int IntKind.i64
                      (wi
                        [AV.c (C.d (D.v (Value.int IntKind.i64 p))),
                          AV.c
                            (C.d
                              (D.v
                                (Value.int IntKind.i64
                                  (↑(List.length (nm [AV.agg (List.map C.d (staC s))])) : Int))))])))),
              AV.c
                (C.d
                  (D.v
                    (Value.string
                      (List.getD (nm [AV.agg (List.map C.d (staC s))])
                        (Int.toNat
                          (wi
                            [AV.c (C.d (D.v (Value.int IntKind.i64 q))),
                              AV.c
                                (C.d
                                  (D.v
                                    (Value.int IntKind.i64
                                      (↑(List.length (nm [AV.agg (List.map C.d (staC s))])) : Int))))]))
                        e0))))])))]
                      then some (T.leaf
  (AV.c
      (C.d
        (D.v
          (Value.bool
            (ck
                [AV.agg
                    (List.map C.d
                      (staC
                        (rn
                          [AV.agg (List.map C.d (staC s)),
                            AV.c
                              (C.d
                                (D.v
                                  (Value.int IntKind.i64
                                    (wi
                                      [AV.c (C.d (D.v (Value.int IntKind.i64 p))),
                                        AV.c
                                          (C.d
                                            (D.v
                                              (Value.int IntKind.i64
                                                (↑(List.length (nm [AV.agg (List.map C.d (staC s))])) : Int))))])))),
                            AV.c
                              (C.d
                                (D.v
                                  (Value.string
                                    (List.getD (nm [AV.agg (List.map C.d (staC s))])
                                      (Int.toNat
                                        (wi
                                          [AV.c (C.d (D.v (Value.int IntKind.i64 q))),
                                            AV.c
                                              (C.d
                                                (D.v
                                                  (Value.int IntKind.i64
                                                    (↑(List.length (nm [AV.agg (List.map C.d (staC s))])) : Int))))]))
                                      e0))))])))] ==
              (0 : Int))))),
    []))
                      else none)
                    else (bif okc
  [AV.agg
      (List.map C.d
        (staC
          (rn
            [AV.agg (List.map C.d (staC s)),
              AV.c
                (C.d
                  (D.v
                    (Value.int IntKind.i64
                      (wi
                        [AV.c (C.d (D.v (Value.int IntKind.i64 p))),
                          AV.c
                            (C.d
                              (D.v
                                (Value.int IntKind.i64
                                  (↑(List.length (nm [AV.agg (List.map C.d (staC s))])) : Int))))])))),
              AV.c
                (C.d
                  (D.v
                    (Value.string
                      (List.getD (nm [AV.agg (List.map C.d (staC s))])
                        (Int.toNat
                          (wi
                            [AV.c (C.d (D.v (Value.int IntKind.i64 q))),
                              AV.c
                                (C.d
                                  (D.v
                                    (Value.int IntKind.i64
                                      (↑(List.length (nm [AV.agg (List.map C.d (staC s))])) : Int))))]))
                        e0))))])))]
                      then some (T.leaf
  (AV.c
      (C.d
        (D.v
          (Value.bool
            (ck
                [AV.agg
                    (List.map C.d
                      (staC
                        (rn
                          [AV.agg (List.map C.d (staC s)),
                            AV.c
                              (C.d
                                (D.v
                                  (Value.int IntKind.i64
                                    (wi
                                      [AV.c (C.d (D.v (Value.int IntKind.i64 p))),
                                        AV.c
                                          (C.d
                                            (D.v
                                              (Value.int IntKind.i64
                                                (↑(List.length (nm [AV.agg (List.map C.d (staC s))])) : Int))))])))),
                            AV.c
                              (C.d
                                (D.v
                                  (Value.string
                                    (List.getD (nm [AV.agg (List.map C.d (staC s))])
                                      (Int.toNat
                                        (wi
                                          [AV.c (C.d (D.v (Value.int IntKind.i64 q))),
                                            AV.c
                                              (C.d
                                                (D.v
                                                  (Value.int IntKind.i64
                                                    (↑(List.length (nm [AV.agg (List.map C.d (staC s))])) : Int))))]))
                                      e0))))])))] ==
              (8 : Int))))),
    []))
                      else none))
                  else none)
                else none)
              else none)
            else none)
          else none))
      else none))
  else none) := by kernel_rfl
end Go.Proofs.Ythmapnolgdpkbaa.st
