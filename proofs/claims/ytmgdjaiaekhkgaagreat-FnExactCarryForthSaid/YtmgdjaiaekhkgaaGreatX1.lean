/-
  A stub.
-/
import Derived.Test.YtmgdjaiaekhkgaaGreatS3
